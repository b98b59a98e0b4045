/- What functions of the program compute, and that their code computes it (turned out of what the printer of the kit wrote), part 2. -/
import Derived.Test.YtmmjnbpoilicjaaGreatBQa
import Derived.Test.YtmmjnbpoilicjaaGreatBQx0
import Derived.Test.YtmmjnbpoilicjaaGreatBQx2
set_option linter.unusedVariables false
set_option linter.unusedSimpArgs false
namespace Go.Proofs.YtmmjnbpoilicjaaGreat.Q
open Go.RowKit Go.Proofs.YtmmjnbpoilicjaaGreatW.PrintWords Go.Proofs.YtmmjnbpoilicjaaGreatW.PrintLast Go.Proofs.YtmmjnbpoilicjaaGreatW.PrintMore
attribute [local go_sem] max2_int min2_int max_two min_two max_three min_three max_four min_four   -- for this text's walks alone
mutual
def wire_list_int.j0 : Nat → Int → Bool → List Int → Int → Bool → Option (List Int × Int × Bool)
 | 0, _, _, _, _, _ => none
 | k + 1, x5, x31, x1000, x1001, x1002 => if x31 = true then (some (([] : List Int), x1001, true)) else (wire_list_int.l0 k x5 ([] : List Int) 0 x1000 x1001 x1002)
def wire_list_int.l0 : Nat → Int → List Int → Int → List Int → Int → Bool → Option (List Int × Int × Bool)
 | 0, _, _, _, _, _, _ => none
 | k + 1, x5, x6, x7, x1000, x1001, x1002 => if x7 < x5 then (if x1002 = true then (some (x6, x1001, x1002)) else ((wr_number.f k x1000 x1001 x1002).bind fun bt118 => (if x6.length < 17592186044416 then (wire_list_int.l0 k x5 (x6 ++ [bt118.1]) (wrap64 (x7 + 1)) x1000 bt118.2.1 bt118.2.2) else (none)))) else (some (x6, x1001, x1002))
end
def wire_list_int.f (k : Nat) (s0_0 : List Int) (s0_1 : Int) (s0_2 : Bool) : Option (List Int × Int × Bool) := (wr_number.f k s0_0 s0_1 s0_2).bind fun bt115 => (if bt115.2.2 = true then (wire_list_int.j0 k bt115.1 true s0_0 bt115.2.1 bt115.2.2) else (if bt115.1 < 0 then (wire_list_int.j0 k bt115.1 true s0_0 bt115.2.1 bt115.2.2) else (wire_list_int.j0 k bt115.1 (decide (bt115.1 > (wrap64 ((s0_0.length : Int) - bt115.2.1)))) s0_0 bt115.2.1 bt115.2.2)))
set_option maxHeartbeats 8000000 in
set_option maxRecDepth 100000 in
theorem wire_list_int.calls (k : Nat) (g : Nat) (s0_0 : List Int) (s0_1 : Int) (s0_2 : Bool) (r1 : List Int) (r2 : Int) (r3 : Bool) (w0 w : World) (hI : IsS77 w0 w g s0_0 s0_1 s0_2) (hB : Below w0.heap.size w0 w) (h : wire_list_int.f k s0_0 s0_1 s0_2 = some (r1, r2, r3)) :
  Calls Tryz.prog 68 #[.pointer (some ⟨g, 0, none⟩), .func (.func 33) #[.pointer (some ⟨g, 0, none⟩)] #[]] w fun e w' => ∃ v0_ : Value, e = .returned (v0_) ∧ Kd.R (Kd.int .i64) 3 w' w.heap.size (fun _ => True) v0_ r1 ∧ IsS77 w0 w' g s0_0 r2 r3 ∧ Below w0.heap.size w0 w' ∧ KeepBut w w' g none := by
 have HI0 := Ak hI
 have HK := Ak (KeepBut.refl w g none)
 have HL := Ak hB.size
 clear hI
 have HW0 := Ak hB.size
 have HB := Ak hB
 clear hB
 have H : ((wr_number.f k s0_0 s0_1 s0_2).bind fun bt115 => (if bt115.2.2 = true then (wire_list_int.j0 k bt115.1 true s0_0 bt115.2.1 bt115.2.2) else (if bt115.1 < 0 then (wire_list_int.j0 k bt115.1 true s0_0 bt115.2.1 bt115.2.2) else (wire_list_int.j0 k bt115.1 (decide (bt115.1 > (wrap64 ((s0_0.length : Int) - bt115.2.1)))) s0_0 bt115.2.1 bt115.2.2)))) = some (r1, r2, r3) := h
 clear h
 replace H := Option.bind_eq_some_iff.mp H
 obtain ⟨⟨t115, t116, t117⟩, A20, H⟩ := H
 replace H : (if t117 = true then (wire_list_int.j0 k t115 true s0_0 t116 t117) else (if t115 < 0 then (wire_list_int.j0 k t115 true s0_0 t116 t117) else (wire_list_int.j0 k t115 (decide (t115 > (wrap64 ((s0_0.length : Int) - t116)))) s0_0 t116 t117))) = some (r1, r2, r3) := H
 have A2 := Ak A20
 clear A20
 have HC3 := Ak H
 clear H
 go_enter Tryz.func68, Tryz.ntmps68
 go_upto_region 2 with (first | (go_at_call 33; (with_reducible refine (wr_number.calls k g s0_0 s0_1 s0_2 t115 t116 t117 w0 _ ?side1 ?side2 A2.out).mono ?_); (case side1 => exact Z3); (case side2 => exact Z2); rintro e w4 ⟨rfl, hi, hb, hk⟩; have n0_ := Ak (KeepBut.trans Z0 hk (.inl rfl)); have n1_ := Ak (hb); have n2_ := Ak (hi); clear HK; clear HB; clear HI0; have HK := n0_; have HB := n1_; have HI0 := n2_; clear n0_ n1_ n2_; (try clear hb); (try clear hb2); (try clear hk); (try clear hi)))
 repeat (go_quiet (first | (go_at_call 33; (with_reducible refine (wr_number.calls k g s0_0 s0_1 s0_2 t115 t116 t117 w0 _ ?side1 ?side2 A2.out).mono ?_); (case side1 => exact Z3); (case side2 => exact Z2); rintro e w4 ⟨rfl, hi, hb, hk⟩; have n0_ := Ak (KeepBut.trans Z0 hk (.inl rfl)); have n1_ := Ak (hb); have n2_ := Ak (hi); clear HK; clear HB; clear HI0; have HK := n0_; have HB := n1_; have HI0 := n2_; clear n0_ n1_ n2_; (try clear hb); (try clear hb2); (try clear hk); (try clear hi))); go_upto_region 2 with (first | (go_at_call 33; (with_reducible refine (wr_number.calls k g s0_0 s0_1 s0_2 t115 t116 t117 w0 _ ?side1 ?side2 A2.out).mono ?_); (case side1 => exact Z3); (case side2 => exact Z2); rintro e w4 ⟨rfl, hi, hb, hk⟩; have n0_ := Ak (KeepBut.trans Z0 hk (.inl rfl)); have n1_ := Ak (hb); have n2_ := Ak (hi); clear HK; clear HB; clear HI0; have HK := n0_; have HB := n1_; have HI0 := n2_; clear n0_ n1_ n2_; (try clear hb); (try clear hb2); (try clear hk); (try clear hi))))
 (try simp only [Act.put, List.setIfInBounds_toArray, List.set_cons_zero, List.set_cons_succ])
 go_cut [31] (fun v31 wc => ∃ (kq : Nat) (x31_2 : Bool), v31 = .bool x31_2 ∧ Aside0 (wire_list_int.j0 kq t115 x31_2 s0_0 t116 t117 = some (r1, r2, r3)) ∧ Aside0 (kq ≤ k) ∧ Aside0 (IsS77 w0 wc g s0_0 t116 t117) ∧ Aside0 (KeepBut w wc g none) ∧ Aside0 (Below w0.heap.size w0 wc))
 case first =>
  have H := HC3.out
  clear HC3
  by_cases c5 : t117 = true
  ·subst c5
   have H1 : (wire_list_int.j0 k t115 true s0_0 t116 true) = some (r1, r2, r3) := by rw [if_pos rfl] at H; exact H
   clear H
   have H := H1
   clear H1
   have H' := Ak H
   clear H
   obtain ⟨ASz6_0, cSz6_0, HGz6, hgz6, HSz6_0⟩ := HI0.out
   have hcz6_0 := cellS77_0 HGz6
   have hcz6_1 := cellS77_1 HGz6
   have hcz6_2 := cellS77_2 HGz6
   have hfz6_1 := bfz HGz6 1
   have hfz6_2 := bfz HGz6 2
   clear HGz6 hgz6
   go_wp2
   repeat (go_quiet (fail); try go_wp2)
   go_meet
   case rel => exact ⟨_, (true), Z11, H', ⟨Z63⟩, ⟨Z3⟩, ⟨Z0⟩, ⟨Z2⟩⟩
  ·replace c5 := Bool.eq_false_iff.mpr c5
   subst c5
   have H1 : (if t115 < 0 then (wire_list_int.j0 k t115 true s0_0 t116 false) else (wire_list_int.j0 k t115 (decide (t115 > (wrap64 ((s0_0.length : Int) - t116)))) s0_0 t116 false)) = some (r1, r2, r3) := by rw [if_neg (show ¬ (false = true) by decide)] at H; exact H
   clear H
   have H := H1
   clear H1
   by_cases c7 : t115 < 0
   ·rw [if_pos c7] at H
    have c7b0 : decide (t115 < 0) = true := decide_eq_true c7
    clear c7
    (first | rw [c7b0] | (simp only [i64_w, i32_w]; rw [c7b0]) | skip)
    have H' := Ak H
    clear H
    obtain ⟨ASz8_0, cSz8_0, HGz8, hgz8, HSz8_0⟩ := HI0.out
    have hcz8_0 := cellS77_0 HGz8
    have hcz8_1 := cellS77_1 HGz8
    have hcz8_2 := cellS77_2 HGz8
    have hfz8_1 := bfz HGz8 1
    have hfz8_2 := bfz HGz8 2
    clear HGz8 hgz8
    go_wp2
    repeat (go_quiet (fail); try go_wp2)
    go_meet
    case rel => exact ⟨_, (true), Z11, H', ⟨Z63⟩, ⟨Z3⟩, ⟨Z0⟩, ⟨Z2⟩⟩
   ·rw [if_neg c7] at H
    have c7b0 : decide (t115 < 0) = false := decide_eq_false c7
    clear c7
    (first | rw [c7b0] | (simp only [i64_w, i32_w]; rw [c7b0]) | skip)
    have H' := Ak H
    clear H
    obtain ⟨ASz9_0, cSz9_0, HGz9, hgz9, HSz9_0⟩ := HI0.out
    have hcz9_0 := cellS77_0 HGz9
    have hcz9_1 := cellS77_1 HGz9
    have hcz9_2 := cellS77_2 HGz9
    have hfz9_1 := bfz HGz9 1
    have hfz9_2 := bfz HGz9 2
    clear HGz9 hgz9
    go_wp2
    repeat (go_quiet (fail); try go_wp2)
    go_meet
    case rel => exact ⟨_, (decide (t115 > (wrap64 ((s0_0.length : Int) - t116)))), Z11, H', ⟨Z63⟩, ⟨Z3⟩, ⟨Z0⟩, ⟨Z2⟩⟩
 case rest =>
  clear HC3
  try clear p2
  try clear c5
  try clear c6
  try clear p6
  try clear c7
  try clear c7b0
  try clear hcz6_0
  try clear hcz6_1
  try clear hcz6_2
  try clear hcz8_0
  try clear hcz8_1
  try clear hcz8_2
  try clear hcz9_0
  try clear hcz9_1
  try clear hcz9_2
  try clear hfz6_1
  try clear hfz6_2
  try clear hfz8_1
  try clear hfz8_2
  try clear hfz9_1
  try clear hfz9_2
  obtain ⟨kq, x31_2, rfl, HA, HJ2, HI0, HK, HB⟩ := hcut
  cases kq with
  | zero => exact absurd HA.out (by simp [wire_list_int.j0])
  | succ kj2 =>
   have H := HA.out
   clear HA
   simp only [wire_list_int.j0] at H
   by_cases c10 : x31_2 = true
   ·subst c10
    have H1 : (some (([] : List Int), t116, true)) = some (r1, r2, r3) := by rw [if_pos rfl] at H; exact H
    clear H
    have H := H1
    clear H1
    simp only [Option.some.injEq, Prod.mk.injEq] at H
    obtain ⟨rfl, rfl, rfl⟩ := H
    obtain ⟨ASz11_0, cSz11_0, HGz11, hgz11, HSz11_0⟩ := HI0.out
    have hcz11_0 := cellS77_0 HGz11
    have hcz11_1 := cellS77_1 HGz11
    have hcz11_2 := cellS77_2 HGz11
    have hfz11_1 := bfz HGz11 1
    have hfz11_2 := bfz HGz11 2
    clear HGz11 hgz11
    go_wp2
    repeat (go_quiet (fail); try go_wp2)
    go_ret
    exact ⟨_, Z6, Z8, Z3, Z2, Z0⟩
   ·replace c10 := Bool.eq_false_iff.mpr c10
    subst c10
    have H1 : (wire_list_int.l0 kj2 t115 ([] : List Int) 0 s0_0 t116 t117) = some (r1, r2, r3) := by rw [if_neg (show ¬ (false = true) by decide)] at H; exact H
    clear H
    have H := H1
    clear H1
    have H' := Ak H
    clear H
    go_wp2
    repeat (go_quiet (fail); try go_wp2)
    go_loopg [6, 7] kj2 (fun kq v6 v7 w' => ∃ (x6_2 : List Int) (x7_2 : Int) (x1001_2 : Int) (x1002_2 : Bool), v7 = .int .i64 x7_2 ∧ Aside0 (wire_list_int.l0 kq t115 x6_2 x7_2 s0_0 x1001_2 x1002_2 = some (r1, r2, r3)) ∧ Aside0 (kq ≤ kj2) ∧ Aside0 (Kd.R (Kd.int .i64) 3 w' w.heap.size (fun _ => True) v6 x6_2) ∧ Aside0 (IsS77 w0 w' g s0_0 x1001_2 x1002_2) ∧ Aside0 (KeepBut w w' g none) ∧ Aside0 (Below w0.heap.size w0 w'))
    case atStart => exact ⟨(([] : List Int)), (0), (t116), (t117), Z11, H', ⟨Nat.le_refl _⟩, ⟨Z8⟩, ⟨Z3⟩, ⟨Z0⟩, ⟨Z2⟩⟩
    case round =>
     clear H'
     try clear c1
     try clear p2
     try clear c5
     try clear c6
     try clear p6
     try clear c7
     try clear c7b0
     try clear c10
     try clear hcz11_0
     try clear hcz11_1
     try clear hcz11_2
     try clear hcz6_0
     try clear hcz6_1
     try clear hcz6_2
     try clear hcz8_0
     try clear hcz8_1
     try clear hcz8_2
     try clear hcz9_0
     try clear hcz9_1
     try clear hcz9_2
     try clear hfz11_1
     try clear hfz11_2
     try clear hfz6_1
     try clear hfz6_2
     try clear hfz8_1
     try clear hfz8_2
     try clear hfz9_1
     try clear hfz9_2
     try clear p2
     try clear p6
     obtain ⟨x6_2, x7_2, x1001_2, x1002_2, rfl, HA, HK2, HO_6, HI0, HK, HB⟩ := hrel
     cases gk with
     | zero => exact absurd HA.out (by simp [wire_list_int.l0])
     | succ k2 =>
      have H := HA.out
      clear HA
      simp only [wire_list_int.l0] at H
      by_cases c12 : x7_2 < t115
      ·rw [if_pos c12] at H
       have c12b0 : decide (x7_2 < t115) = true := decide_eq_true c12
       clear c12
       by_cases c13 : x1002_2 = true
       ·subst c13
        have H1 : (some (x6_2, x1001_2, true)) = some (r1, r2, r3) := by rw [if_pos rfl] at H; exact H
        clear H
        have H := H1
        clear H1
        simp only [Option.some.injEq, Prod.mk.injEq] at H
        obtain ⟨rfl, rfl, rfl⟩ := H
        obtain ⟨ASz14_0, cSz14_0, HGz14, hgz14, HSz14_0⟩ := HI0.out
        have hcz14_0 := cellS77_0 HGz14
        have hcz14_1 := cellS77_1 HGz14
        have hcz14_2 := cellS77_2 HGz14
        have hfz14_1 := bfz HGz14 1
        have hfz14_2 := bfz HGz14 2
        clear HGz14 hgz14
        go_wp2
        repeat (go_quiet (fail); try go_wp2)
        go_ret
        exact ⟨_, Z6, Z26, Z3, Z2, Z0⟩
       ·replace c13 := Bool.eq_false_iff.mpr c13
        subst c13
        have H1 : ((wr_number.f k2 s0_0 x1001_2 false).bind fun bt118 => (if x6_2.length < 17592186044416 then (wire_list_int.l0 k2 t115 (x6_2 ++ [bt118.1]) (wrap64 (x7_2 + 1)) s0_0 bt118.2.1 bt118.2.2) else (none))) = some (r1, r2, r3) := by rw [if_neg (show ¬ (false = true) by decide)] at H; exact H
        clear H
        have H := H1
        clear H1
        replace H := Option.bind_eq_some_iff.mp H
        obtain ⟨⟨t118, t119, t120⟩, A150, H⟩ := H
        replace H : (if x6_2.length < 17592186044416 then (wire_list_int.l0 k2 t115 (x6_2 ++ [t118]) (wrap64 (x7_2 + 1)) s0_0 t119 t120) else (none)) = some (r1, r2, r3) := H
        have A15 := Ak A150
        clear A150
        by_cases c16 : x6_2.length < 17592186044416
        ·rw [if_pos c16] at H
         have LMc16 := Ak c16
         clear c16
         obtain ⟨y121, hy121⟩ : ∃ y_ : List Int, y_ = (x6_2 ++ [t118]) := ⟨_, rfl⟩
         replace H : (wire_list_int.l0 k2 t115 y121 (wrap64 (x7_2 + 1)) s0_0 t119 t120) = some (r1, r2, r3) := by first | (rw [hy121]; with_reducible exact H) | (have H2_ := (Option.bind_some _ _).symm.trans H; rw [hy121]; with_reducible exact H2_) | (have H2_ := (Option.bind_some _ _).symm.trans H; with_reducible exact H2_) | with_reducible exact H | (rw [hy121]; exact H) | exact H
         have Ny121 := Ak hy121
         clear hy121
         have H' := Ak H
         clear H
         obtain ⟨ASz17_0, cSz17_0, HGz17, hgz17, HSz17_0⟩ := HI0.out
         have hcz17_0 := cellS77_0 HGz17
         have hcz17_1 := cellS77_1 HGz17
         have hcz17_2 := cellS77_2 HGz17
         have hfz17_1 := bfz HGz17 1
         have hfz17_2 := bfz HGz17 2
         clear HGz17 hgz17
         go_wp2_with (first | (go_at_call 33; (with_reducible refine (wr_number.calls k2 g s0_0 x1001_2 false t118 t119 t120 w0 _ ?side1 ?side2 A15.out).mono ?_); (case side1 => exact Z3); (case side2 => exact Z2); rintro e w18 ⟨rfl, hi, hb, hk⟩; have n0_ := Ak (Kd.R_mono (Kd.R_keep (IsS77.apart (show IsS77 w0 _ g s0_0 x1001_2 false from by repeat (first | (with_reducible first | exact HI0.out | apply IsS77.alloc | apply IsS77.drewN | apply IsS77.drew | apply IsS77.set_1 | apply IsS77.set_2) | exact HI0.out)) Z26 (by decide)) hk (fun _ h => h.2)) (fun _ h => h.1)); have n1_ := Ak (KeepBut.trans Z0 hk (.inl rfl)); have n2_ := Ak (hb); have n3_ := Ak (hi); clear HO_6; clear HK; clear HB; clear HI0; have HO_6 := n0_; have HK := n1_; have HB := n2_; have HI0 := n3_; clear n0_ n1_ n2_ n3_; (try clear hb); (try clear hb2); (try clear hk); (try clear hi)) | ((with_reducible refine gate_builtin (b := .append) (xs := #[.tmp 47, .tmp 50]) rfl ?_); (try (refine gate_guard (by rfl) ?_; dsimp only)); at_builtin; refine Kd.R_append (Kd.int .i64) w.heap.size rfl (.tmp 47) (.tmp 50) 24 3 (.int .i64 0) 8 rfl Tryz.underlying24 info3 rfl (by decide) (by omega) u6 x6_2 t118 [.int .i64 t118] (fun _ => True) (fun _ => False) rfl rfl ?aP (fun _ hk => hk.elim) ?aF ?aO (Below.refl _ _) ?aS ?aL ?_; (case aP => exact rfl); (case aF => exact (fun _ _ => trivial)); (case aO => exact Z26); (case aS => exact Z78); (case aL => have := LMc16.out; omega); intro v122 w19 ho hb hg hat; rw [← Ny121.out] at ho; have n0_ := Ak (IsS77.grown Z3 hg (IsS77.own_ne HI0.out HO_6.out (by decide))); have n1_ := Ak (below_weaken Z2 HL.out hb); have n2_ := Ak (KeepBut.trans Z0 (KeepBut.of_grown hg g) (Kd.R_base2 HO_6.out)); have n3_ := Ak (ho); clear HI0; clear HB; clear HK; clear HO_6; have HI0 := n0_; have HB := n1_; have HK := n2_; have HO123 := n3_; clear n0_ n1_ n2_ n3_; clear ho hb hg hat))
         repeat (go_quiet (first | (go_at_call 33; (with_reducible refine (wr_number.calls k2 g s0_0 x1001_2 false t118 t119 t120 w0 _ ?side1 ?side2 A15.out).mono ?_); (case side1 => exact Z3); (case side2 => exact Z2); rintro e w18 ⟨rfl, hi, hb, hk⟩; have n0_ := Ak (Kd.R_mono (Kd.R_keep (IsS77.apart (show IsS77 w0 _ g s0_0 x1001_2 false from by repeat (first | (with_reducible first | exact HI0.out | apply IsS77.alloc | apply IsS77.drewN | apply IsS77.drew | apply IsS77.set_1 | apply IsS77.set_2) | exact HI0.out)) Z26 (by decide)) hk (fun _ h => h.2)) (fun _ h => h.1)); have n1_ := Ak (KeepBut.trans Z0 hk (.inl rfl)); have n2_ := Ak (hb); have n3_ := Ak (hi); clear HO_6; clear HK; clear HB; clear HI0; have HO_6 := n0_; have HK := n1_; have HB := n2_; have HI0 := n3_; clear n0_ n1_ n2_ n3_; (try clear hb); (try clear hb2); (try clear hk); (try clear hi)) | ((with_reducible refine gate_builtin (b := .append) (xs := #[.tmp 47, .tmp 50]) rfl ?_); (try (refine gate_guard (by rfl) ?_; dsimp only)); at_builtin; refine Kd.R_append (Kd.int .i64) w.heap.size rfl (.tmp 47) (.tmp 50) 24 3 (.int .i64 0) 8 rfl Tryz.underlying24 info3 rfl (by decide) (by omega) u6 x6_2 t118 [.int .i64 t118] (fun _ => True) (fun _ => False) rfl rfl ?aP (fun _ hk => hk.elim) ?aF ?aO (Below.refl _ _) ?aS ?aL ?_; (case aP => exact rfl); (case aF => exact (fun _ _ => trivial)); (case aO => exact Z26); (case aS => exact Z78); (case aL => have := LMc16.out; omega); intro v122 w19 ho hb hg hat; rw [← Ny121.out] at ho; have n0_ := Ak (IsS77.grown Z3 hg (IsS77.own_ne HI0.out HO_6.out (by decide))); have n1_ := Ak (below_weaken Z2 HL.out hb); have n2_ := Ak (KeepBut.trans Z0 (KeepBut.of_grown hg g) (Kd.R_base2 HO_6.out)); have n3_ := Ak (ho); clear HI0; clear HB; clear HK; clear HO_6; have HI0 := n0_; have HB := n1_; have HK := n2_; have HO123 := n3_; clear n0_ n1_ n2_ n3_; clear ho hb hg hat)); try go_wp2_with (first | (go_at_call 33; (with_reducible refine (wr_number.calls k2 g s0_0 x1001_2 false t118 t119 t120 w0 _ ?side1 ?side2 A15.out).mono ?_); (case side1 => exact Z3); (case side2 => exact Z2); rintro e w18 ⟨rfl, hi, hb, hk⟩; have n0_ := Ak (Kd.R_mono (Kd.R_keep (IsS77.apart (show IsS77 w0 _ g s0_0 x1001_2 false from by repeat (first | (with_reducible first | exact HI0.out | apply IsS77.alloc | apply IsS77.drewN | apply IsS77.drew | apply IsS77.set_1 | apply IsS77.set_2) | exact HI0.out)) Z26 (by decide)) hk (fun _ h => h.2)) (fun _ h => h.1)); have n1_ := Ak (KeepBut.trans Z0 hk (.inl rfl)); have n2_ := Ak (hb); have n3_ := Ak (hi); clear HO_6; clear HK; clear HB; clear HI0; have HO_6 := n0_; have HK := n1_; have HB := n2_; have HI0 := n3_; clear n0_ n1_ n2_ n3_; (try clear hb); (try clear hb2); (try clear hk); (try clear hi)) | ((with_reducible refine gate_builtin (b := .append) (xs := #[.tmp 47, .tmp 50]) rfl ?_); (try (refine gate_guard (by rfl) ?_; dsimp only)); at_builtin; refine Kd.R_append (Kd.int .i64) w.heap.size rfl (.tmp 47) (.tmp 50) 24 3 (.int .i64 0) 8 rfl Tryz.underlying24 info3 rfl (by decide) (by omega) u6 x6_2 t118 [.int .i64 t118] (fun _ => True) (fun _ => False) rfl rfl ?aP (fun _ hk => hk.elim) ?aF ?aO (Below.refl _ _) ?aS ?aL ?_; (case aP => exact rfl); (case aF => exact (fun _ _ => trivial)); (case aO => exact Z26); (case aS => exact Z78); (case aL => have := LMc16.out; omega); intro v122 w19 ho hb hg hat; rw [← Ny121.out] at ho; have n0_ := Ak (IsS77.grown Z3 hg (IsS77.own_ne HI0.out HO_6.out (by decide))); have n1_ := Ak (below_weaken Z2 HL.out hb); have n2_ := Ak (KeepBut.trans Z0 (KeepBut.of_grown hg g) (Kd.R_base2 HO_6.out)); have n3_ := Ak (ho); clear HI0; clear HB; clear HK; clear HO_6; have HI0 := n0_; have HB := n1_; have HK := n2_; have HO123 := n3_; clear n0_ n1_ n2_ n3_; clear ho hb hg hat)))
         go_roundg k2
         case measure => have := HJ2.out; have := HK2.out; omega
         case rel => exact ⟨(y121), (wrap64 (x7_2 + 1)), (t119), (t120), Z11, H', ⟨by have := HJ2.out; have := HK2.out; omega⟩, ⟨by (with_reducible repeat (first | apply Kd.R_alloc | apply Kd.R_drewN | apply Kd.R_drew)); exact HO123.out⟩, ⟨Z3⟩, ⟨Z0⟩, ⟨Z2⟩⟩
        ·rw [if_neg c16] at H
         exact absurd H (by simp)
      ·rw [if_neg c12] at H
       have c12b0 : decide (x7_2 < t115) = false := decide_eq_false c12
       clear c12
       simp only [Option.some.injEq, Prod.mk.injEq] at H
       obtain ⟨rfl, rfl, rfl⟩ := H
       go_wp2
       repeat (go_quiet (fail); try go_wp2)
       go_ret
       exact ⟨_, Z6, Z26, Z3, Z2, Z0⟩
def wr_text.f (k : Nat) (s0_0 : List Int) (s0_1 : Int) (s0_2 : Bool) : Option (ByteArray × Int × Bool) := (wr_number.f k s0_0 s0_1 s0_2).bind fun bt124 => (if bt124.2.2 = true then (some ((⟨#[]⟩ : ByteArray), bt124.2.1, true)) else (if bt124.1 < 0 then (some ((⟨#[]⟩ : ByteArray), bt124.2.1, true)) else (if bt124.1 > (wrap64 ((s0_0.length : Int) - bt124.2.1)) then (some ((⟨#[]⟩ : ByteArray), bt124.2.1, true)) else (if 0 ≤ (wrap64 ((wrap64 (bt124.2.1 + bt124.1)) - bt124.1)) then (if (wrap64 ((wrap64 (bt124.2.1 + bt124.1)) - bt124.1)) ≤ (wrap64 (bt124.2.1 + bt124.1)) then (if (wrap64 (bt124.2.1 + bt124.1)) ≤ (s0_0.length : Int) then (some (strOfNums ((s0_0.take ((wrap64 (bt124.2.1 + bt124.1)) : Int).toNat).drop ((wrap64 ((wrap64 (bt124.2.1 + bt124.1)) - bt124.1)) : Int).toNat), wrap64 (bt124.2.1 + bt124.1), bt124.2.2)) else (none)) else (none)) else (none)))))
set_option maxHeartbeats 8000000 in
set_option maxRecDepth 100000 in
theorem wr_text.calls (k : Nat) (g : Nat) (s0_0 : List Int) (s0_1 : Int) (s0_2 : Bool) (r1 : ByteArray) (r2 : Int) (r3 : Bool) (w0 w : World) (hI : IsS77 w0 w g s0_0 s0_1 s0_2) (hB : Below w0.heap.size w0 w) (h : wr_text.f k s0_0 s0_1 s0_2 = some (r1, r2, r3)) :
  Calls Tryz.prog 69 #[.pointer (some ⟨g, 0, none⟩)] w fun e w' => e = .returned (.string r1) ∧ IsS77 w0 w' g s0_0 r2 r3 ∧ Below w0.heap.size w0 w' ∧ KeepBut w w' g none := by
 have HI0 := Ak hI
 have HK := Ak (KeepBut.refl w g none)
 have HL := Ak hB.size
 clear hI
 have HW0 := Ak hB.size
 have HB := Ak hB
 clear hB
 have H : ((wr_number.f k s0_0 s0_1 s0_2).bind fun bt124 => (if bt124.2.2 = true then (some ((⟨#[]⟩ : ByteArray), bt124.2.1, true)) else (if bt124.1 < 0 then (some ((⟨#[]⟩ : ByteArray), bt124.2.1, true)) else (if bt124.1 > (wrap64 ((s0_0.length : Int) - bt124.2.1)) then (some ((⟨#[]⟩ : ByteArray), bt124.2.1, true)) else (if 0 ≤ (wrap64 ((wrap64 (bt124.2.1 + bt124.1)) - bt124.1)) then (if (wrap64 ((wrap64 (bt124.2.1 + bt124.1)) - bt124.1)) ≤ (wrap64 (bt124.2.1 + bt124.1)) then (if (wrap64 (bt124.2.1 + bt124.1)) ≤ (s0_0.length : Int) then (some (strOfNums ((s0_0.take ((wrap64 (bt124.2.1 + bt124.1)) : Int).toNat).drop ((wrap64 ((wrap64 (bt124.2.1 + bt124.1)) - bt124.1)) : Int).toNat), wrap64 (bt124.2.1 + bt124.1), bt124.2.2)) else (none)) else (none)) else (none)))))) = some (r1, r2, r3) := h
 clear h
 replace H := Option.bind_eq_some_iff.mp H
 obtain ⟨⟨t124, t125, t126⟩, A20, H⟩ := H
 replace H : (if t126 = true then (some ((⟨#[]⟩ : ByteArray), t125, true)) else (if t124 < 0 then (some ((⟨#[]⟩ : ByteArray), t125, true)) else (if t124 > (wrap64 ((s0_0.length : Int) - t125)) then (some ((⟨#[]⟩ : ByteArray), t125, true)) else (if 0 ≤ (wrap64 ((wrap64 (t125 + t124)) - t124)) then (if (wrap64 ((wrap64 (t125 + t124)) - t124)) ≤ (wrap64 (t125 + t124)) then (if (wrap64 (t125 + t124)) ≤ (s0_0.length : Int) then (some (strOfNums ((s0_0.take ((wrap64 (t125 + t124)) : Int).toNat).drop ((wrap64 ((wrap64 (t125 + t124)) - t124)) : Int).toNat), wrap64 (t125 + t124), t126)) else (none)) else (none)) else (none))))) = some (r1, r2, r3) := H
 have A2 := Ak A20
 clear A20
 by_cases c3 : t126 = true
 ·subst c3
  have H1 : (some ((⟨#[]⟩ : ByteArray), t125, true)) = some (r1, r2, r3) := by rw [if_pos rfl] at H; exact H
  clear H
  have H := H1
  clear H1
  simp only [Option.some.injEq, Prod.mk.injEq] at H
  obtain ⟨rfl, rfl, rfl⟩ := H
  go_enter Tryz.func69, Tryz.ntmps69
  go_wp2_with (first | (go_at_call 33; (with_reducible refine (wr_number.calls k g s0_0 s0_1 s0_2 t124 t125 true w0 _ ?side1 ?side2 A2.out).mono ?_); (case side1 => exact Z3); (case side2 => exact Z2); rintro e w4 ⟨rfl, hi, hb, hk⟩; have n0_ := Ak (KeepBut.trans Z0 hk (.inl rfl)); have n1_ := Ak (hb); have n2_ := Ak (hi); clear HK; clear HB; clear HI0; have HK := n0_; have HB := n1_; have HI0 := n2_; clear n0_ n1_ n2_; (try clear hb); (try clear hb2); (try clear hk); (try clear hi); obtain ⟨ASz5_0, cSz5_0, HGz5, hgz5, HSz5_0⟩ := HI0.out; have hcz5_0 := cellS77_0 HGz5; have hcz5_1 := cellS77_1 HGz5; have hcz5_2 := cellS77_2 HGz5; have hfz5_1 := bfz HGz5 1; have hfz5_2 := bfz HGz5 2; clear HGz5 hgz5))
  repeat (go_quiet (first | (go_at_call 33; (with_reducible refine (wr_number.calls k g s0_0 s0_1 s0_2 t124 t125 true w0 _ ?side1 ?side2 A2.out).mono ?_); (case side1 => exact Z3); (case side2 => exact Z2); rintro e w4 ⟨rfl, hi, hb, hk⟩; have n0_ := Ak (KeepBut.trans Z0 hk (.inl rfl)); have n1_ := Ak (hb); have n2_ := Ak (hi); clear HK; clear HB; clear HI0; have HK := n0_; have HB := n1_; have HI0 := n2_; clear n0_ n1_ n2_; (try clear hb); (try clear hb2); (try clear hk); (try clear hi); obtain ⟨ASz5_0, cSz5_0, HGz5, hgz5, HSz5_0⟩ := HI0.out; have hcz5_0 := cellS77_0 HGz5; have hcz5_1 := cellS77_1 HGz5; have hcz5_2 := cellS77_2 HGz5; have hfz5_1 := bfz HGz5 1; have hfz5_2 := bfz HGz5 2; clear HGz5 hgz5)); try go_wp2_with (first | (go_at_call 33; (with_reducible refine (wr_number.calls k g s0_0 s0_1 s0_2 t124 t125 true w0 _ ?side1 ?side2 A2.out).mono ?_); (case side1 => exact Z3); (case side2 => exact Z2); rintro e w4 ⟨rfl, hi, hb, hk⟩; have n0_ := Ak (KeepBut.trans Z0 hk (.inl rfl)); have n1_ := Ak (hb); have n2_ := Ak (hi); clear HK; clear HB; clear HI0; have HK := n0_; have HB := n1_; have HI0 := n2_; clear n0_ n1_ n2_; (try clear hb); (try clear hb2); (try clear hk); (try clear hi); obtain ⟨ASz5_0, cSz5_0, HGz5, hgz5, HSz5_0⟩ := HI0.out; have hcz5_0 := cellS77_0 HGz5; have hcz5_1 := cellS77_1 HGz5; have hcz5_2 := cellS77_2 HGz5; have hfz5_1 := bfz HGz5 1; have hfz5_2 := bfz HGz5 2; clear HGz5 hgz5)))
  go_ret
  exact ⟨Z6, Z3, Z2, Z0⟩
 ·replace c3 := Bool.eq_false_iff.mpr c3
  subst c3
  have H1 : (if t124 < 0 then (some ((⟨#[]⟩ : ByteArray), t125, true)) else (if t124 > (wrap64 ((s0_0.length : Int) - t125)) then (some ((⟨#[]⟩ : ByteArray), t125, true)) else (if 0 ≤ (wrap64 ((wrap64 (t125 + t124)) - t124)) then (if (wrap64 ((wrap64 (t125 + t124)) - t124)) ≤ (wrap64 (t125 + t124)) then (if (wrap64 (t125 + t124)) ≤ (s0_0.length : Int) then (some (strOfNums ((s0_0.take ((wrap64 (t125 + t124)) : Int).toNat).drop ((wrap64 ((wrap64 (t125 + t124)) - t124)) : Int).toNat), wrap64 (t125 + t124), false)) else (none)) else (none)) else (none)))) = some (r1, r2, r3) := by rw [if_neg (show ¬ (false = true) by decide)] at H; exact H
  clear H
  have H := H1
  clear H1
  by_cases c6 : t124 < 0
  ·rw [if_pos c6] at H
   have c6b0 : decide (t124 < 0) = true := decide_eq_true c6
   clear c6
   simp only [Option.some.injEq, Prod.mk.injEq] at H
   obtain ⟨rfl, rfl, rfl⟩ := H
   go_enter Tryz.func69, Tryz.ntmps69
   go_wp2_with (first | (go_at_call 33; (with_reducible refine (wr_number.calls k g s0_0 s0_1 s0_2 t124 t125 false w0 _ ?side1 ?side2 A2.out).mono ?_); (case side1 => exact Z3); (case side2 => exact Z2); rintro e w7 ⟨rfl, hi, hb, hk⟩; have n0_ := Ak (KeepBut.trans Z0 hk (.inl rfl)); have n1_ := Ak (hb); have n2_ := Ak (hi); clear HK; clear HB; clear HI0; have HK := n0_; have HB := n1_; have HI0 := n2_; clear n0_ n1_ n2_; (try clear hb); (try clear hb2); (try clear hk); (try clear hi); obtain ⟨ASz8_0, cSz8_0, HGz8, hgz8, HSz8_0⟩ := HI0.out; have hcz8_0 := cellS77_0 HGz8; have hcz8_1 := cellS77_1 HGz8; have hcz8_2 := cellS77_2 HGz8; have hfz8_1 := bfz HGz8 1; have hfz8_2 := bfz HGz8 2; clear HGz8 hgz8))
   repeat (go_quiet (first | (go_at_call 33; (with_reducible refine (wr_number.calls k g s0_0 s0_1 s0_2 t124 t125 false w0 _ ?side1 ?side2 A2.out).mono ?_); (case side1 => exact Z3); (case side2 => exact Z2); rintro e w7 ⟨rfl, hi, hb, hk⟩; have n0_ := Ak (KeepBut.trans Z0 hk (.inl rfl)); have n1_ := Ak (hb); have n2_ := Ak (hi); clear HK; clear HB; clear HI0; have HK := n0_; have HB := n1_; have HI0 := n2_; clear n0_ n1_ n2_; (try clear hb); (try clear hb2); (try clear hk); (try clear hi); obtain ⟨ASz8_0, cSz8_0, HGz8, hgz8, HSz8_0⟩ := HI0.out; have hcz8_0 := cellS77_0 HGz8; have hcz8_1 := cellS77_1 HGz8; have hcz8_2 := cellS77_2 HGz8; have hfz8_1 := bfz HGz8 1; have hfz8_2 := bfz HGz8 2; clear HGz8 hgz8)); try go_wp2_with (first | (go_at_call 33; (with_reducible refine (wr_number.calls k g s0_0 s0_1 s0_2 t124 t125 false w0 _ ?side1 ?side2 A2.out).mono ?_); (case side1 => exact Z3); (case side2 => exact Z2); rintro e w7 ⟨rfl, hi, hb, hk⟩; have n0_ := Ak (KeepBut.trans Z0 hk (.inl rfl)); have n1_ := Ak (hb); have n2_ := Ak (hi); clear HK; clear HB; clear HI0; have HK := n0_; have HB := n1_; have HI0 := n2_; clear n0_ n1_ n2_; (try clear hb); (try clear hb2); (try clear hk); (try clear hi); obtain ⟨ASz8_0, cSz8_0, HGz8, hgz8, HSz8_0⟩ := HI0.out; have hcz8_0 := cellS77_0 HGz8; have hcz8_1 := cellS77_1 HGz8; have hcz8_2 := cellS77_2 HGz8; have hfz8_1 := bfz HGz8 1; have hfz8_2 := bfz HGz8 2; clear HGz8 hgz8)))
   go_ret
   exact ⟨Z6, Z3, Z2, Z0⟩
  ·rw [if_neg c6] at H
   have c6b0 : decide (t124 < 0) = false := decide_eq_false c6
   clear c6
   by_cases c9 : t124 > (wrap64 ((s0_0.length : Int) - t125))
   ·rw [if_pos c9] at H
    have c9b0 : decide ((wrap64 ((s0_0.length : Int) - t125)) < t124) = true := decide_eq_true c9
    clear c9
    simp only [Option.some.injEq, Prod.mk.injEq] at H
    obtain ⟨rfl, rfl, rfl⟩ := H
    go_enter Tryz.func69, Tryz.ntmps69
    go_wp2_with (first | (go_at_call 33; (with_reducible refine (wr_number.calls k g s0_0 s0_1 s0_2 t124 t125 false w0 _ ?side1 ?side2 A2.out).mono ?_); (case side1 => exact Z3); (case side2 => exact Z2); rintro e w10 ⟨rfl, hi, hb, hk⟩; have n0_ := Ak (KeepBut.trans Z0 hk (.inl rfl)); have n1_ := Ak (hb); have n2_ := Ak (hi); clear HK; clear HB; clear HI0; have HK := n0_; have HB := n1_; have HI0 := n2_; clear n0_ n1_ n2_; (try clear hb); (try clear hb2); (try clear hk); (try clear hi); obtain ⟨ASz11_0, cSz11_0, HGz11, hgz11, HSz11_0⟩ := HI0.out; have hcz11_0 := cellS77_0 HGz11; have hcz11_1 := cellS77_1 HGz11; have hcz11_2 := cellS77_2 HGz11; have hfz11_1 := bfz HGz11 1; have hfz11_2 := bfz HGz11 2; clear HGz11 hgz11))
    repeat (go_quiet (first | (go_at_call 33; (with_reducible refine (wr_number.calls k g s0_0 s0_1 s0_2 t124 t125 false w0 _ ?side1 ?side2 A2.out).mono ?_); (case side1 => exact Z3); (case side2 => exact Z2); rintro e w10 ⟨rfl, hi, hb, hk⟩; have n0_ := Ak (KeepBut.trans Z0 hk (.inl rfl)); have n1_ := Ak (hb); have n2_ := Ak (hi); clear HK; clear HB; clear HI0; have HK := n0_; have HB := n1_; have HI0 := n2_; clear n0_ n1_ n2_; (try clear hb); (try clear hb2); (try clear hk); (try clear hi); obtain ⟨ASz11_0, cSz11_0, HGz11, hgz11, HSz11_0⟩ := HI0.out; have hcz11_0 := cellS77_0 HGz11; have hcz11_1 := cellS77_1 HGz11; have hcz11_2 := cellS77_2 HGz11; have hfz11_1 := bfz HGz11 1; have hfz11_2 := bfz HGz11 2; clear HGz11 hgz11)); try go_wp2_with (first | (go_at_call 33; (with_reducible refine (wr_number.calls k g s0_0 s0_1 s0_2 t124 t125 false w0 _ ?side1 ?side2 A2.out).mono ?_); (case side1 => exact Z3); (case side2 => exact Z2); rintro e w10 ⟨rfl, hi, hb, hk⟩; have n0_ := Ak (KeepBut.trans Z0 hk (.inl rfl)); have n1_ := Ak (hb); have n2_ := Ak (hi); clear HK; clear HB; clear HI0; have HK := n0_; have HB := n1_; have HI0 := n2_; clear n0_ n1_ n2_; (try clear hb); (try clear hb2); (try clear hk); (try clear hi); obtain ⟨ASz11_0, cSz11_0, HGz11, hgz11, HSz11_0⟩ := HI0.out; have hcz11_0 := cellS77_0 HGz11; have hcz11_1 := cellS77_1 HGz11; have hcz11_2 := cellS77_2 HGz11; have hfz11_1 := bfz HGz11 1; have hfz11_2 := bfz HGz11 2; clear HGz11 hgz11)))
    go_ret
    exact ⟨Z6, Z3, Z2, Z0⟩
   ·rw [if_neg c9] at H
    have c9b0 : decide ((wrap64 ((s0_0.length : Int) - t125)) < t124) = false := decide_eq_false c9
    clear c9
    by_cases d : 0 ≤ (wrap64 ((wrap64 (t125 + t124)) - t124))
    ·rw [if_pos d] at H
     have D1 := Ak d
     clear d
     by_cases d : (wrap64 ((wrap64 (t125 + t124)) - t124)) ≤ (wrap64 (t125 + t124))
     ·rw [if_pos d] at H
      have D2 := Ak d
      clear d
      by_cases d : (wrap64 (t125 + t124)) ≤ (s0_0.length : Int)
      ·rw [if_pos d] at H
       have D3 := Ak d
       clear d
       simp only [Option.some.injEq, Prod.mk.injEq] at H
       obtain ⟨rfl, rfl, rfl⟩ := H
       go_enter Tryz.func69, Tryz.ntmps69
       go_wp2_with (first | (go_at_call 33; (with_reducible refine (wr_number.calls k g s0_0 s0_1 s0_2 t124 t125 false w0 _ ?side1 ?side2 A2.out).mono ?_); (case side1 => exact Z3); (case side2 => exact Z2); rintro e w12 ⟨rfl, hi, hb, hk⟩; have n0_ := Ak (KeepBut.trans Z0 hk (.inl rfl)); have n1_ := Ak (hb); have n2_ := Ak (hi); clear HK; clear HB; clear HI0; have HK := n0_; have HB := n1_; have HI0 := n2_; clear n0_ n1_ n2_; (try clear hb); (try clear hb2); (try clear hk); (try clear hi); obtain ⟨ASz13_0, cSz13_0, HGz13, hgz13, HSz13_0⟩ := HI0.out; have hcz13_0 := cellS77_0 HGz13; have hcz13_1 := cellS77_1 HGz13; have hcz13_2 := cellS77_2 HGz13; have hfz13_1 := bfz HGz13 1; have hfz13_2 := bfz HGz13 2; have hcap_ := hgz13.2; clear HGz13 hgz13; obtain ⟨i010, hi010, _, hsz10, _⟩ := info_parts info5; obtain ⟨A10, hcut10, hA10, hC10⟩ := print_mid_of (P := Tryz.prog) (Value.int .u8) 0 22 5 .i64 .i64 Tryz.underlying22 hi010 hsz10 ASz13_0 cSz13_0 s0_0 (wrap64 ((wrap64 (t125 + t124)) - t124)) (wrap64 (t125 + t124)) D1.out D2.out D3.out hcap_; obtain ⟨L10, hL10⟩ : ∃ L : Nat, L = ((s0_0.take ((wrap64 (t125 + t124)) : Int).toNat).drop ((wrap64 ((wrap64 (t125 + t124)) - t124)) : Int).toNat).length := ⟨_, rfl⟩; have hcv_ : ∀ (m n : Nat) (u : Value), (convert 22 9 (.slice A10 L10 (cSz13_0 - ((wrap64 ((wrap64 (t125 + t124)) - t124)) : Int).toNat))).run Tryz.prog (((w12.drewN m).setCell ⟨g, 1, none⟩ u).drewN n) = .ok (.string (strOfNums ((s0_0.take ((wrap64 (t125 + t124)) : Int).toNat).drop ((wrap64 ((wrap64 (t125 + t124)) - t124)) : Int).toNat))) (((w12.drewN m).setCell ⟨g, 1, none⟩ u).drewN n) := fun m n u => by { rw [hL10]; exact Kd.C_string Tryz.underlying22 Tryz.underlying5 Tryz.underlying9 (Kd.C_of_reads (h1 := fun _ => rfl) (hA10 _ (Kd.reads_of_C (Kd.C_below HSz13_0 (pw_below_drewN (below_set (pw_below_drewN HB.out m) (IsS77.ge HI0.out)) n))))) }; have hcut11 : ∀ W : World, (Instr.slice 22 (.slice ASz13_0 s0_0.length cSz13_0) (some (.int .i64 (IntKind.i64.wrap ((wrap64 (t125 + t124)) - t124)))) (some (.int .i64 (wrap64 (t125 + t124)))) none).run Tryz.prog W = .ok (.slice A10 L10 (cSz13_0 - ((wrap64 ((wrap64 (t125 + t124)) - t124)) : Int).toNat)) W := fun W => by { rw [i64_w, hL10]; exact hcut10 W }; clear hcut10 hL10 hA10 hC10 hi010 hsz10))
       repeat (go_quiet (first | (go_at_call 33; (with_reducible refine (wr_number.calls k g s0_0 s0_1 s0_2 t124 t125 false w0 _ ?side1 ?side2 A2.out).mono ?_); (case side1 => exact Z3); (case side2 => exact Z2); rintro e w12 ⟨rfl, hi, hb, hk⟩; have n0_ := Ak (KeepBut.trans Z0 hk (.inl rfl)); have n1_ := Ak (hb); have n2_ := Ak (hi); clear HK; clear HB; clear HI0; have HK := n0_; have HB := n1_; have HI0 := n2_; clear n0_ n1_ n2_; (try clear hb); (try clear hb2); (try clear hk); (try clear hi); obtain ⟨ASz13_0, cSz13_0, HGz13, hgz13, HSz13_0⟩ := HI0.out; have hcz13_0 := cellS77_0 HGz13; have hcz13_1 := cellS77_1 HGz13; have hcz13_2 := cellS77_2 HGz13; have hfz13_1 := bfz HGz13 1; have hfz13_2 := bfz HGz13 2; have hcap_ := hgz13.2; clear HGz13 hgz13; obtain ⟨i010, hi010, _, hsz10, _⟩ := info_parts info5; obtain ⟨A10, hcut10, hA10, hC10⟩ := print_mid_of (P := Tryz.prog) (Value.int .u8) 0 22 5 .i64 .i64 Tryz.underlying22 hi010 hsz10 ASz13_0 cSz13_0 s0_0 (wrap64 ((wrap64 (t125 + t124)) - t124)) (wrap64 (t125 + t124)) D1.out D2.out D3.out hcap_; obtain ⟨L10, hL10⟩ : ∃ L : Nat, L = ((s0_0.take ((wrap64 (t125 + t124)) : Int).toNat).drop ((wrap64 ((wrap64 (t125 + t124)) - t124)) : Int).toNat).length := ⟨_, rfl⟩; have hcv_ : ∀ (m n : Nat) (u : Value), (convert 22 9 (.slice A10 L10 (cSz13_0 - ((wrap64 ((wrap64 (t125 + t124)) - t124)) : Int).toNat))).run Tryz.prog (((w12.drewN m).setCell ⟨g, 1, none⟩ u).drewN n) = .ok (.string (strOfNums ((s0_0.take ((wrap64 (t125 + t124)) : Int).toNat).drop ((wrap64 ((wrap64 (t125 + t124)) - t124)) : Int).toNat))) (((w12.drewN m).setCell ⟨g, 1, none⟩ u).drewN n) := fun m n u => by { rw [hL10]; exact Kd.C_string Tryz.underlying22 Tryz.underlying5 Tryz.underlying9 (Kd.C_of_reads (h1 := fun _ => rfl) (hA10 _ (Kd.reads_of_C (Kd.C_below HSz13_0 (pw_below_drewN (below_set (pw_below_drewN HB.out m) (IsS77.ge HI0.out)) n))))) }; have hcut11 : ∀ W : World, (Instr.slice 22 (.slice ASz13_0 s0_0.length cSz13_0) (some (.int .i64 (IntKind.i64.wrap ((wrap64 (t125 + t124)) - t124)))) (some (.int .i64 (wrap64 (t125 + t124)))) none).run Tryz.prog W = .ok (.slice A10 L10 (cSz13_0 - ((wrap64 ((wrap64 (t125 + t124)) - t124)) : Int).toNat)) W := fun W => by { rw [i64_w, hL10]; exact hcut10 W }; clear hcut10 hL10 hA10 hC10 hi010 hsz10)); try go_wp2_with (first | (go_at_call 33; (with_reducible refine (wr_number.calls k g s0_0 s0_1 s0_2 t124 t125 false w0 _ ?side1 ?side2 A2.out).mono ?_); (case side1 => exact Z3); (case side2 => exact Z2); rintro e w12 ⟨rfl, hi, hb, hk⟩; have n0_ := Ak (KeepBut.trans Z0 hk (.inl rfl)); have n1_ := Ak (hb); have n2_ := Ak (hi); clear HK; clear HB; clear HI0; have HK := n0_; have HB := n1_; have HI0 := n2_; clear n0_ n1_ n2_; (try clear hb); (try clear hb2); (try clear hk); (try clear hi); obtain ⟨ASz13_0, cSz13_0, HGz13, hgz13, HSz13_0⟩ := HI0.out; have hcz13_0 := cellS77_0 HGz13; have hcz13_1 := cellS77_1 HGz13; have hcz13_2 := cellS77_2 HGz13; have hfz13_1 := bfz HGz13 1; have hfz13_2 := bfz HGz13 2; have hcap_ := hgz13.2; clear HGz13 hgz13; obtain ⟨i010, hi010, _, hsz10, _⟩ := info_parts info5; obtain ⟨A10, hcut10, hA10, hC10⟩ := print_mid_of (P := Tryz.prog) (Value.int .u8) 0 22 5 .i64 .i64 Tryz.underlying22 hi010 hsz10 ASz13_0 cSz13_0 s0_0 (wrap64 ((wrap64 (t125 + t124)) - t124)) (wrap64 (t125 + t124)) D1.out D2.out D3.out hcap_; obtain ⟨L10, hL10⟩ : ∃ L : Nat, L = ((s0_0.take ((wrap64 (t125 + t124)) : Int).toNat).drop ((wrap64 ((wrap64 (t125 + t124)) - t124)) : Int).toNat).length := ⟨_, rfl⟩; have hcv_ : ∀ (m n : Nat) (u : Value), (convert 22 9 (.slice A10 L10 (cSz13_0 - ((wrap64 ((wrap64 (t125 + t124)) - t124)) : Int).toNat))).run Tryz.prog (((w12.drewN m).setCell ⟨g, 1, none⟩ u).drewN n) = .ok (.string (strOfNums ((s0_0.take ((wrap64 (t125 + t124)) : Int).toNat).drop ((wrap64 ((wrap64 (t125 + t124)) - t124)) : Int).toNat))) (((w12.drewN m).setCell ⟨g, 1, none⟩ u).drewN n) := fun m n u => by { rw [hL10]; exact Kd.C_string Tryz.underlying22 Tryz.underlying5 Tryz.underlying9 (Kd.C_of_reads (h1 := fun _ => rfl) (hA10 _ (Kd.reads_of_C (Kd.C_below HSz13_0 (pw_below_drewN (below_set (pw_below_drewN HB.out m) (IsS77.ge HI0.out)) n))))) }; have hcut11 : ∀ W : World, (Instr.slice 22 (.slice ASz13_0 s0_0.length cSz13_0) (some (.int .i64 (IntKind.i64.wrap ((wrap64 (t125 + t124)) - t124)))) (some (.int .i64 (wrap64 (t125 + t124)))) none).run Tryz.prog W = .ok (.slice A10 L10 (cSz13_0 - ((wrap64 ((wrap64 (t125 + t124)) - t124)) : Int).toNat)) W := fun W => by { rw [i64_w, hL10]; exact hcut10 W }; clear hcut10 hL10 hA10 hC10 hi010 hsz10)))
       go_ret
       exact ⟨Z6, Z3, Z2, Z0⟩
      ·rw [if_neg d] at H
       exact absurd H (by simp)
     ·rw [if_neg d] at H
      exact absurd H (by simp)
    ·rw [if_neg d] at H
     exact absurd H (by simp)
def wr_flag.f (s0_0 : List Int) (s0_1 : Int) (s0_2 : Bool) : Option (Bool × Int × Bool) := (wr_octet.f s0_0 s0_1 s0_2).bind fun bt127 => (if bt127.1 > 1 then (some ((bt127.1 == 1), bt127.2.1, true)) else (some ((bt127.1 == 1), bt127.2.1, bt127.2.2)))
set_option maxHeartbeats 8000000 in
set_option maxRecDepth 100000 in
theorem wr_flag.calls (g : Nat) (s0_0 : List Int) (s0_1 : Int) (s0_2 : Bool) (r1 : Bool) (r2 : Int) (r3 : Bool) (w0 w : World) (hI : IsS77 w0 w g s0_0 s0_1 s0_2) (hB : Below w0.heap.size w0 w) (h : wr_flag.f s0_0 s0_1 s0_2 = some (r1, r2, r3)) :
  Calls Tryz.prog 110 #[.pointer (some ⟨g, 0, none⟩)] w fun e w' => e = .returned (.bool r1) ∧ IsS77 w0 w' g s0_0 r2 r3 ∧ Below w0.heap.size w0 w' ∧ KeepBut w w' g none := by
 have HI0 := Ak hI
 have HK := Ak (KeepBut.refl w g none)
 have HL := Ak hB.size
 clear hI
 have HW0 := Ak hB.size
 have HB := Ak hB
 clear hB
 have H : ((wr_octet.f s0_0 s0_1 s0_2).bind fun bt127 => (if bt127.1 > 1 then (some ((bt127.1 == 1), bt127.2.1, true)) else (some ((bt127.1 == 1), bt127.2.1, bt127.2.2)))) = some (r1, r2, r3) := h
 clear h
 replace H := Option.bind_eq_some_iff.mp H
 obtain ⟨⟨t127, t128, t129⟩, A20, H⟩ := H
 replace H : (if t127 > 1 then (some ((t127 == 1), t128, true)) else (some ((t127 == 1), t128, t129))) = some (r1, r2, r3) := H
 have A2 := Ak A20
 clear A20
 by_cases c3 : t127 > 1
 ·rw [if_pos c3] at H
  have c3b0 : decide (1 < t127) = true := decide_eq_true c3
  clear c3
  simp only [Option.some.injEq, Prod.mk.injEq] at H
  obtain ⟨rfl, rfl, rfl⟩ := H
  go_enter Tryz.func110, Tryz.ntmps110
  go_wp2_with (first | ((with_reducible refine gate_callee (f := 67) rfl ?_); refine goesL_ (some 5) rfl rfl Tryz.func67 Z76 rfl #[.pointer (some ⟨g, 0, none⟩)] rfl Z4 ?_; (with_reducible refine (wr_octet.calls g s0_0 s0_1 s0_2 t127 t128 t129 w0 _ ?side1 ?side2 A2.out).mono ?_); (case side1 => exact Z3); (case side2 => exact Z2); rintro e w4 ⟨rfl, hi, hb, hk⟩; refine ⟨_, rfl, ?_⟩; have n0_ := Ak (KeepBut.trans Z0 hk (.inl rfl)); have n1_ := Ak (hb); have n2_ := Ak (hi); clear HK; clear HB; clear HI0; have HK := n0_; have HB := n1_; have HI0 := n2_; clear n0_ n1_ n2_; (try clear hb); (try clear hb2); (try clear hk); (try clear hi); obtain ⟨ASz5_0, cSz5_0, HGz5, hgz5, HSz5_0⟩ := HI0.out; have hcz5_0 := cellS77_0 HGz5; have hcz5_1 := cellS77_1 HGz5; have hcz5_2 := cellS77_2 HGz5; have hfz5_1 := bfz HGz5 1; have hfz5_2 := bfz HGz5 2; clear HGz5 hgz5))
  go_ret
  exact ⟨Z6, Z3, Z2, Z0⟩
 ·rw [if_neg c3] at H
  have c3b0 : decide (1 < t127) = false := decide_eq_false c3
  clear c3
  simp only [Option.some.injEq, Prod.mk.injEq] at H
  obtain ⟨rfl, rfl, rfl⟩ := H
  go_enter Tryz.func110, Tryz.ntmps110
  go_wp2_with (first | ((with_reducible refine gate_callee (f := 67) rfl ?_); refine goesL_ (some 5) rfl rfl Tryz.func67 Z76 rfl #[.pointer (some ⟨g, 0, none⟩)] rfl Z4 ?_; (with_reducible refine (wr_octet.calls g s0_0 s0_1 s0_2 t127 t128 t129 w0 _ ?side1 ?side2 A2.out).mono ?_); (case side1 => exact Z3); (case side2 => exact Z2); rintro e w6 ⟨rfl, hi, hb, hk⟩; refine ⟨_, rfl, ?_⟩; have n0_ := Ak (KeepBut.trans Z0 hk (.inl rfl)); have n1_ := Ak (hb); have n2_ := Ak (hi); clear HK; clear HB; clear HI0; have HK := n0_; have HB := n1_; have HI0 := n2_; clear n0_ n1_ n2_; (try clear hb); (try clear hb2); (try clear hk); (try clear hi)))
  go_ret
  exact ⟨Z6, Z3, Z2, Z0⟩
def wr_write.f (k : Nat) (s0_0 : List Int) (s0_1 : Int) (s0_2 : Bool) : Option (Int × Int × Int × Bool × ByteArray × Int × Int × Bool) := (wr_number.f k s0_0 s0_1 s0_2).bind fun bt132 => ((wr_number.f k s0_0 bt132.2.1 bt132.2.2).bind fun bt135 => ((wr_number.f k s0_0 bt135.2.1 bt135.2.2).bind fun bt138 => ((wr_flag.f s0_0 bt138.2.1 bt138.2.2).bind fun bt141 => ((wr_text.f k s0_0 bt141.2.1 bt141.2.2).bind fun bt144 => ((wr_number.f k s0_0 bt144.2.1 bt144.2.2).bind fun bt147 => (some (bt132.1, bt135.1, bt138.1, bt141.1, bt144.1, bt147.1, bt147.2.1, bt147.2.2)))))))
set_option maxHeartbeats 8000000 in
set_option maxRecDepth 100000 in
theorem wr_write.calls (k : Nat) (g : Nat) (s0_0 : List Int) (s0_1 : Int) (s0_2 : Bool) (r1 : Int) (r2 : Int) (r3 : Int) (r4 : Bool) (r5 : ByteArray) (r6 : Int) (r7 : Int) (r8 : Bool) (w0 w : World) (hI : IsS77 w0 w g s0_0 s0_1 s0_2) (hB : Below w0.heap.size w0 w) (h : wr_write.f k s0_0 s0_1 s0_2 = some (r1, r2, r3, r4, r5, r6, r7, r8)) :
  Calls Tryz.prog 71 #[.pointer (some ⟨g, 0, none⟩)] w fun e w' => e = .returned (.agg #[.int .i64 r1, .int .i64 r2, .int .i64 r3, .bool r4, .string r5, .int .i64 r6]) ∧ IsS77 w0 w' g s0_0 r7 r8 ∧ Below w0.heap.size w0 w' ∧ KeepBut w w' g none := by
 have hu110 := Tryz.underlying110
 have HI0 := Ak hI
 have HK := Ak (KeepBut.refl w g none)
 have HL := Ak hB.size
 clear hI
 have HW0 := Ak hB.size
 have HB := Ak hB
 clear hB
 have H : ((wr_number.f k s0_0 s0_1 s0_2).bind fun bt132 => ((wr_number.f k s0_0 bt132.2.1 bt132.2.2).bind fun bt135 => ((wr_number.f k s0_0 bt135.2.1 bt135.2.2).bind fun bt138 => ((wr_flag.f s0_0 bt138.2.1 bt138.2.2).bind fun bt141 => ((wr_text.f k s0_0 bt141.2.1 bt141.2.2).bind fun bt144 => ((wr_number.f k s0_0 bt144.2.1 bt144.2.2).bind fun bt147 => (some (bt132.1, bt135.1, bt138.1, bt141.1, bt144.1, bt147.1, bt147.2.1, bt147.2.2)))))))) = some (r1, r2, r3, r4, r5, r6, r7, r8) := h
 clear h
 replace H := Option.bind_eq_some_iff.mp H
 obtain ⟨⟨t132, t133, t134⟩, A20, H⟩ := H
 replace H : ((wr_number.f k s0_0 t133 t134).bind fun bt135 => ((wr_number.f k s0_0 bt135.2.1 bt135.2.2).bind fun bt138 => ((wr_flag.f s0_0 bt138.2.1 bt138.2.2).bind fun bt141 => ((wr_text.f k s0_0 bt141.2.1 bt141.2.2).bind fun bt144 => ((wr_number.f k s0_0 bt144.2.1 bt144.2.2).bind fun bt147 => (some (t132, bt135.1, bt138.1, bt141.1, bt144.1, bt147.1, bt147.2.1, bt147.2.2))))))) = some (r1, r2, r3, r4, r5, r6, r7, r8) := H
 have A2 := Ak A20
 clear A20
 replace H := Option.bind_eq_some_iff.mp H
 obtain ⟨⟨t135, t136, t137⟩, A30, H⟩ := H
 replace H : ((wr_number.f k s0_0 t136 t137).bind fun bt138 => ((wr_flag.f s0_0 bt138.2.1 bt138.2.2).bind fun bt141 => ((wr_text.f k s0_0 bt141.2.1 bt141.2.2).bind fun bt144 => ((wr_number.f k s0_0 bt144.2.1 bt144.2.2).bind fun bt147 => (some (t132, t135, bt138.1, bt141.1, bt144.1, bt147.1, bt147.2.1, bt147.2.2)))))) = some (r1, r2, r3, r4, r5, r6, r7, r8) := H
 have A3 := Ak A30
 clear A30
 replace H := Option.bind_eq_some_iff.mp H
 obtain ⟨⟨t138, t139, t140⟩, A40, H⟩ := H
 replace H : ((wr_flag.f s0_0 t139 t140).bind fun bt141 => ((wr_text.f k s0_0 bt141.2.1 bt141.2.2).bind fun bt144 => ((wr_number.f k s0_0 bt144.2.1 bt144.2.2).bind fun bt147 => (some (t132, t135, t138, bt141.1, bt144.1, bt147.1, bt147.2.1, bt147.2.2))))) = some (r1, r2, r3, r4, r5, r6, r7, r8) := H
 have A4 := Ak A40
 clear A40
 replace H := Option.bind_eq_some_iff.mp H
 obtain ⟨⟨t141, t142, t143⟩, A50, H⟩ := H
 replace H : ((wr_text.f k s0_0 t142 t143).bind fun bt144 => ((wr_number.f k s0_0 bt144.2.1 bt144.2.2).bind fun bt147 => (some (t132, t135, t138, t141, bt144.1, bt147.1, bt147.2.1, bt147.2.2)))) = some (r1, r2, r3, r4, r5, r6, r7, r8) := H
 have A5 := Ak A50
 clear A50
 replace H := Option.bind_eq_some_iff.mp H
 obtain ⟨⟨t144, t145, t146⟩, A60, H⟩ := H
 replace H : ((wr_number.f k s0_0 t145 t146).bind fun bt147 => (some (t132, t135, t138, t141, t144, bt147.1, bt147.2.1, bt147.2.2))) = some (r1, r2, r3, r4, r5, r6, r7, r8) := H
 have A6 := Ak A60
 clear A60
 replace H := Option.bind_eq_some_iff.mp H
 obtain ⟨⟨t147, t148, t149⟩, A70, H⟩ := H
 replace H : (some (t132, t135, t138, t141, t144, t147, t148, t149)) = some (r1, r2, r3, r4, r5, r6, r7, r8) := H
 have A7 := Ak A70
 clear A70
 simp only [Option.some.injEq, Prod.mk.injEq] at H
 obtain ⟨rfl, rfl, rfl, rfl, rfl, rfl, rfl, rfl⟩ := H
 go_enter Tryz.func71, Tryz.ntmps71
 go_wp2_with (first | ((with_reducible refine gate_dst (N := 2) rfl ?_); refine box_event ?hg (N := 2) ?hd (cs := #[.int .i64 0, .int .i64 0, .int .i64 0, .bool false, .string (⟨#[]⟩ : ByteArray), .int .i64 0]) (t := 110) ?hr ?_; (case hd => rfl); (case hg => rfl); (case hr => exact Z16); intro gb130 hg w8 hbox hb; have n0_ := Ak (IsS77.below Z3 hb); have n1_ := Ak (KeepBut.trans Z0 (KeepBut.of_below hb g none) (.inl rfl)); have n2_ := Ak (below_step Z2 hb); have n3_ := Ak (hbox); have n4_ := Ak ((by rw [hg]; exact (keep_size (w := w) (g := g) (row := none) Z0) : w.heap.size ≤ gb130)); have n5_ := Ak ((Nat.le_trans HW0.out (by rw [hg]; exact (keep_size (w := w) (g := g) (row := none) Z0) : w.heap.size ≤ gb130) : w0.heap.size ≤ gb130)); have n6_ := Ak ((Z108 : g ≠ gb130)); have n7_ := Ak ((Z109 : gb130 ≠ g)); clear HI0; clear HK; clear HB; have HI0 := n0_; have HK := n1_; have HB := n2_; have BK130 := n3_; have GW130 := n4_; have GE130 := n5_; have NB0_130 := n6_; have NB130_0 := n7_; clear n0_ n1_ n2_ n3_ n4_ n5_ n6_ n7_; clear hb hbox hg) | ((with_reducible refine gate_dst (N := 3) rfl ?_); refine box_event ?hg (N := 3) ?hd (cs := #[.int .i64 0, .int .i64 0, .int .i64 0, .bool false, .string (⟨#[]⟩ : ByteArray), .int .i64 0]) (t := 110) ?hr ?_; (case hd => rfl); (case hg => rfl); (case hr => exact Z16); intro gb131 hg w9 hbox hb; have n0_ := Ak (IsS77.below (by repeat (first | (with_reducible first | exact HI0.out | apply IsS77.alloc | apply IsS77.drewN | apply IsS77.drew | apply IsS77.set_1 | apply IsS77.set_2 | refine IsS77.far ?_ NB0_130.out _) | exact HI0.out)) hb); have n1_ := Ak (blk_below (g := gb130) (o := .cells #[.int .i64 0, .int .i64 0, .int .i64 0, .bool false, .string (⟨#[]⟩ : ByteArray), .int .i64 0] 110 (0, 0)) (by refine bz ?_; exact BK130.out) hb); have n2_ := Ak (KeepBut.trans Z80 (KeepBut.of_below hb g none) (.inl rfl)); have n3_ := Ak (below_step (by repeat (first | (with_reducible first | exact HB.out | apply below_alloc | apply pw_below_drewN | apply below_drew1 | refine below_set ?_ (IsS77.ge HI0.out) | refine below_set ?_ GE130.out) | exact HB.out)) hb); have n4_ := Ak (hbox); have n5_ := Ak ((by rw [hg]; exact (keep_size (w := w) (g := g) (row := none) Z80) : w.heap.size ≤ gb131)); have n6_ := Ak ((Nat.le_trans HW0.out (by rw [hg]; exact (keep_size (w := w) (g := g) (row := none) Z80) : w.heap.size ≤ gb131) : w0.heap.size ≤ gb131)); have n7_ := Ak ((by rw [hg]; exact Nat.ne_of_lt (blk_lt (g := gb130) (o := .cells #[.int .i64 0, .int .i64 0, .int .i64 0, .bool false, .string (⟨#[]⟩ : ByteArray), .int .i64 0] 110 (0, 0)) (by refine bz ?_; exact BK130.out)) : gb130 ≠ gb131)); have n8_ := Ak ((by rw [hg]; exact Nat.ne_of_gt (blk_lt (g := gb130) (o := .cells #[.int .i64 0, .int .i64 0, .int .i64 0, .bool false, .string (⟨#[]⟩ : ByteArray), .int .i64 0] 110 (0, 0)) (by refine bz ?_; exact BK130.out)) : gb131 ≠ gb130)); have n9_ := Ak ((by rw [hg]; exact Nat.ne_of_lt (IsS77.lt (show IsS77 w0 _ g s0_0 s0_1 s0_2 from by repeat (first | (with_reducible first | exact HI0.out | apply IsS77.alloc | apply IsS77.drewN | apply IsS77.drew | apply IsS77.set_1 | apply IsS77.set_2 | refine IsS77.far ?_ NB0_130.out _) | exact HI0.out))) : g ≠ gb131)); have n10_ := Ak ((by rw [hg]; exact Nat.ne_of_gt (IsS77.lt (show IsS77 w0 _ g s0_0 s0_1 s0_2 from by repeat (first | (with_reducible first | exact HI0.out | apply IsS77.alloc | apply IsS77.drewN | apply IsS77.drew | apply IsS77.set_1 | apply IsS77.set_2 | refine IsS77.far ?_ NB0_130.out _) | exact HI0.out))) : gb131 ≠ g)); clear HI0; clear BK130; clear HK; clear HB; have HI0 := n0_; have BK130 := n1_; have HK := n2_; have HB := n3_; have BK131 := n4_; have GW131 := n5_; have GE131 := n6_; have NB130_131 := n7_; have NB131_130 := n8_; have NB0_131 := n9_; have NB131_0 := n10_; clear n0_ n1_ n2_ n3_ n4_ n5_ n6_ n7_ n8_ n9_ n10_; clear hb hbox hg) | ((with_reducible refine gate_callee (f := 33) rfl ?_); refine goesL_ (some 5) rfl rfl Tryz.func33 Z76 rfl #[.pointer (some ⟨g, 0, none⟩)] rfl Z4 ?_; (with_reducible refine (wr_number.calls k g s0_0 s0_1 s0_2 t132 t133 t134 w0 _ ?side1 ?side2 A2.out).mono ?_); (case side1 => exact Z27); (case side2 => exact Z28); rintro e w10 ⟨rfl, hi, hb, hk⟩; refine ⟨_, rfl, ?_⟩; have n0_ := Ak (KeepBut.blk hk (g' := gb130) (o := .cells #[.int .i64 0, .int .i64 0, .int .i64 0, .bool false, .string (⟨#[]⟩ : ByteArray), .int .i64 0] 110 (0, 0)) (by refine bz ?_; exact BK130.out) NB130_0.out (by simp)); have n1_ := Ak (KeepBut.blk hk (g' := gb131) (o := .cells #[.int .i64 0, .int .i64 0, .int .i64 0, .bool false, .string (⟨#[]⟩ : ByteArray), .int .i64 0] 110 (0, 0)) (by refine bz ?_; exact BK131.out) NB131_0.out (by simp)); have n2_ := Ak (KeepBut.trans Z33 hk (.inl rfl)); have n3_ := Ak (hb); have n4_ := Ak (hi); clear BK130; clear BK131; clear HK; clear HB; clear HI0; have BK130 := n0_; have BK131 := n1_; have HK := n2_; have HB := n3_; have HI0 := n4_; clear n0_ n1_ n2_ n3_ n4_; (try clear hb); (try clear hb2); (try clear hk); (try clear hi); have hnb11 := NB131_130.out; have hnc11 := NB130_131.out; have hnb12 := NB131_0.out; have hnc12 := NB0_131.out; have hcz13_0 : w10.cell? ⟨gb131, 0, none⟩ = some (.int .i64 0) := (blk_cell BK131.out 0).trans rfl; have hcz13_1 : w10.cell? ⟨gb131, 1, none⟩ = some (.int .i64 0) := (blk_cell BK131.out 1).trans rfl; have hcz13_2 : w10.cell? ⟨gb131, 2, none⟩ = some (.int .i64 0) := (blk_cell BK131.out 2).trans rfl; have hcz13_3 : w10.cell? ⟨gb131, 3, none⟩ = some (.bool false) := (blk_cell BK131.out 3).trans rfl; have hcz13_4 : w10.cell? ⟨gb131, 4, none⟩ = some (.string (⟨#[]⟩ : ByteArray)) := (blk_cell BK131.out 4).trans rfl; have hcz13_5 : w10.cell? ⟨gb131, 5, none⟩ = some (.int .i64 0) := (blk_cell BK131.out 5).trans rfl; have hfz13_0 := bfz BK131.out 0; have hfz13_1 := bfz BK131.out 1; have hfz13_2 := bfz BK131.out 2; have hfz13_3 := bfz BK131.out 3; have hfz13_4 := bfz BK131.out 4; have hfz13_5 := bfz BK131.out 5) | ((with_reducible refine gate_callee (f := 33) rfl ?_); refine goesL_ (some 8) rfl rfl Tryz.func33 Z76 rfl #[.pointer (some ⟨g, 0, none⟩)] rfl Z4 ?_; (with_reducible refine (wr_number.calls k g s0_0 t133 t134 t135 t136 t137 w0 _ ?side1 ?side2 A3.out).mono ?_); (case side1 => exact Z27); (case side2 => exact Z28); rintro e w14 ⟨rfl, hi, hb, hk⟩; refine ⟨_, rfl, ?_⟩; have n0_ := Ak (KeepBut.blk hk (g' := gb130) (o := .cells #[.int .i64 0, .int .i64 0, .int .i64 0, .bool false, .string (⟨#[]⟩ : ByteArray), .int .i64 0] 110 (0, 0)) Z98 NB130_0.out (by simp)); have n1_ := Ak (KeepBut.blk hk (g' := gb131) (o := .cells #[.int .i64 t132, .int .i64 0, .int .i64 0, .bool false, .string (⟨#[]⟩ : ByteArray), .int .i64 0] 110 (0, 0)) (by refine bz ?_; refine blk_put (cs := #[.int .i64 0, .int .i64 0, .int .i64 0, .bool false, .string (⟨#[]⟩ : ByteArray), .int .i64 0]) ?_ 0 _ rfl; refine bz ?_; exact BK131.out) NB131_0.out (by simp)); have n2_ := Ak (KeepBut.trans Z33 hk (.inl rfl)); have n3_ := Ak (hb); have n4_ := Ak (hi); clear BK130; clear BK131; clear HK; clear HB; clear HI0; have BK130 := n0_; have BK131 := n1_; have HK := n2_; have HB := n3_; have HI0 := n4_; clear n0_ n1_ n2_ n3_ n4_; (try clear hb); (try clear hb2); (try clear hk); (try clear hi); have hcz15_0 : w14.cell? ⟨gb131, 0, none⟩ = some (.int .i64 t132) := (blk_cell BK131.out 0).trans rfl; have hcz15_1 : w14.cell? ⟨gb131, 1, none⟩ = some (.int .i64 0) := (blk_cell BK131.out 1).trans rfl; have hcz15_2 : w14.cell? ⟨gb131, 2, none⟩ = some (.int .i64 0) := (blk_cell BK131.out 2).trans rfl; have hcz15_3 : w14.cell? ⟨gb131, 3, none⟩ = some (.bool false) := (blk_cell BK131.out 3).trans rfl; have hcz15_4 : w14.cell? ⟨gb131, 4, none⟩ = some (.string (⟨#[]⟩ : ByteArray)) := (blk_cell BK131.out 4).trans rfl; have hcz15_5 : w14.cell? ⟨gb131, 5, none⟩ = some (.int .i64 0) := (blk_cell BK131.out 5).trans rfl; have hfz15_0 := bfz BK131.out 0; have hfz15_1 := bfz BK131.out 1; have hfz15_2 := bfz BK131.out 2; have hfz15_3 := bfz BK131.out 3; have hfz15_4 := bfz BK131.out 4; have hfz15_5 := bfz BK131.out 5) | ((with_reducible refine gate_callee (f := 33) rfl ?_); refine goesL_ (some 11) rfl rfl Tryz.func33 Z76 rfl #[.pointer (some ⟨g, 0, none⟩)] rfl Z4 ?_; (with_reducible refine (wr_number.calls k g s0_0 t136 t137 t138 t139 t140 w0 _ ?side1 ?side2 A4.out).mono ?_); (case side1 => exact Z27); (case side2 => exact Z28); rintro e w16 ⟨rfl, hi, hb, hk⟩; refine ⟨_, rfl, ?_⟩; have n0_ := Ak (KeepBut.blk hk (g' := gb130) (o := .cells #[.int .i64 0, .int .i64 0, .int .i64 0, .bool false, .string (⟨#[]⟩ : ByteArray), .int .i64 0] 110 (0, 0)) Z98 NB130_0.out (by simp)); have n1_ := Ak (KeepBut.blk hk (g' := gb131) (o := .cells #[.int .i64 t132, .int .i64 t135, .int .i64 0, .bool false, .string (⟨#[]⟩ : ByteArray), .int .i64 0] 110 (0, 0)) (by refine bz ?_; refine blk_put (cs := #[.int .i64 t132, .int .i64 0, .int .i64 0, .bool false, .string (⟨#[]⟩ : ByteArray), .int .i64 0]) ?_ 1 _ rfl; refine bz ?_; exact BK131.out) NB131_0.out (by simp)); have n2_ := Ak (KeepBut.trans Z33 hk (.inl rfl)); have n3_ := Ak (hb); have n4_ := Ak (hi); clear BK130; clear BK131; clear HK; clear HB; clear HI0; have BK130 := n0_; have BK131 := n1_; have HK := n2_; have HB := n3_; have HI0 := n4_; clear n0_ n1_ n2_ n3_ n4_; (try clear hb); (try clear hb2); (try clear hk); (try clear hi); have hcz17_0 : w16.cell? ⟨gb131, 0, none⟩ = some (.int .i64 t132) := (blk_cell BK131.out 0).trans rfl; have hcz17_1 : w16.cell? ⟨gb131, 1, none⟩ = some (.int .i64 t135) := (blk_cell BK131.out 1).trans rfl; have hcz17_2 : w16.cell? ⟨gb131, 2, none⟩ = some (.int .i64 0) := (blk_cell BK131.out 2).trans rfl; have hcz17_3 : w16.cell? ⟨gb131, 3, none⟩ = some (.bool false) := (blk_cell BK131.out 3).trans rfl; have hcz17_4 : w16.cell? ⟨gb131, 4, none⟩ = some (.string (⟨#[]⟩ : ByteArray)) := (blk_cell BK131.out 4).trans rfl; have hcz17_5 : w16.cell? ⟨gb131, 5, none⟩ = some (.int .i64 0) := (blk_cell BK131.out 5).trans rfl; have hfz17_0 := bfz BK131.out 0; have hfz17_1 := bfz BK131.out 1; have hfz17_2 := bfz BK131.out 2; have hfz17_3 := bfz BK131.out 3; have hfz17_4 := bfz BK131.out 4; have hfz17_5 := bfz BK131.out 5) | ((with_reducible refine gate_callee (f := 110) rfl ?_); refine goesL_ (some 15) rfl rfl Tryz.func110 Z76 rfl #[.pointer (some ⟨g, 0, none⟩)] rfl Z4 ?_; (with_reducible refine (wr_flag.calls g s0_0 t139 t140 t141 t142 t143 w0 _ ?side1 ?side2 A5.out).mono ?_); (case side1 => exact Z27); (case side2 => exact Z28); rintro e w18 ⟨rfl, hi, hb, hk⟩; refine ⟨_, rfl, ?_⟩; have n0_ := Ak (KeepBut.blk hk (g' := gb130) (o := .cells #[.int .i64 0, .int .i64 0, .int .i64 0, .bool false, .string (⟨#[]⟩ : ByteArray), .int .i64 0] 110 (0, 0)) Z98 NB130_0.out (by simp)); have n1_ := Ak (KeepBut.blk hk (g' := gb131) (o := .cells #[.int .i64 t132, .int .i64 t135, .int .i64 t138, .bool false, .string (⟨#[]⟩ : ByteArray), .int .i64 0] 110 (0, 0)) (by refine bz ?_; refine blk_put (cs := #[.int .i64 t132, .int .i64 t135, .int .i64 0, .bool false, .string (⟨#[]⟩ : ByteArray), .int .i64 0]) ?_ 2 _ rfl; refine bz ?_; exact BK131.out) NB131_0.out (by simp)); have n2_ := Ak (KeepBut.trans Z33 hk (.inl rfl)); have n3_ := Ak (hb); have n4_ := Ak (hi); clear BK130; clear BK131; clear HK; clear HB; clear HI0; have BK130 := n0_; have BK131 := n1_; have HK := n2_; have HB := n3_; have HI0 := n4_; clear n0_ n1_ n2_ n3_ n4_; (try clear hb); (try clear hb2); (try clear hk); (try clear hi); have hcz19_0 : w18.cell? ⟨gb131, 0, none⟩ = some (.int .i64 t132) := (blk_cell BK131.out 0).trans rfl; have hcz19_1 : w18.cell? ⟨gb131, 1, none⟩ = some (.int .i64 t135) := (blk_cell BK131.out 1).trans rfl; have hcz19_2 : w18.cell? ⟨gb131, 2, none⟩ = some (.int .i64 t138) := (blk_cell BK131.out 2).trans rfl; have hcz19_3 : w18.cell? ⟨gb131, 3, none⟩ = some (.bool false) := (blk_cell BK131.out 3).trans rfl; have hcz19_4 : w18.cell? ⟨gb131, 4, none⟩ = some (.string (⟨#[]⟩ : ByteArray)) := (blk_cell BK131.out 4).trans rfl; have hcz19_5 : w18.cell? ⟨gb131, 5, none⟩ = some (.int .i64 0) := (blk_cell BK131.out 5).trans rfl; have hfz19_0 := bfz BK131.out 0; have hfz19_1 := bfz BK131.out 1; have hfz19_2 := bfz BK131.out 2; have hfz19_3 := bfz BK131.out 3; have hfz19_4 := bfz BK131.out 4; have hfz19_5 := bfz BK131.out 5) | ((with_reducible refine gate_callee (f := 69) rfl ?_); refine goesL_ (some 19) rfl rfl Tryz.func69 Z76 rfl #[.pointer (some ⟨g, 0, none⟩)] rfl Z4 ?_; (with_reducible refine (wr_text.calls k g s0_0 t142 t143 t144 t145 t146 w0 _ ?side1 ?side2 A6.out).mono ?_); (case side1 => exact Z27); (case side2 => exact Z28); rintro e w20 ⟨rfl, hi, hb, hk⟩; refine ⟨_, rfl, ?_⟩; have n0_ := Ak (KeepBut.blk hk (g' := gb130) (o := .cells #[.int .i64 0, .int .i64 0, .int .i64 0, .bool false, .string (⟨#[]⟩ : ByteArray), .int .i64 0] 110 (0, 0)) Z98 NB130_0.out (by simp)); have n1_ := Ak (KeepBut.blk hk (g' := gb131) (o := .cells #[.int .i64 t132, .int .i64 t135, .int .i64 t138, .bool t141, .string (⟨#[]⟩ : ByteArray), .int .i64 0] 110 (0, 0)) (by refine bz ?_; refine blk_put (cs := #[.int .i64 t132, .int .i64 t135, .int .i64 t138, .bool false, .string (⟨#[]⟩ : ByteArray), .int .i64 0]) ?_ 3 _ rfl; refine bz ?_; exact BK131.out) NB131_0.out (by simp)); have n2_ := Ak (KeepBut.trans Z33 hk (.inl rfl)); have n3_ := Ak (hb); have n4_ := Ak (hi); clear BK130; clear BK131; clear HK; clear HB; clear HI0; have BK130 := n0_; have BK131 := n1_; have HK := n2_; have HB := n3_; have HI0 := n4_; clear n0_ n1_ n2_ n3_ n4_; (try clear hb); (try clear hb2); (try clear hk); (try clear hi); have hcz21_0 : w20.cell? ⟨gb131, 0, none⟩ = some (.int .i64 t132) := (blk_cell BK131.out 0).trans rfl; have hcz21_1 : w20.cell? ⟨gb131, 1, none⟩ = some (.int .i64 t135) := (blk_cell BK131.out 1).trans rfl; have hcz21_2 : w20.cell? ⟨gb131, 2, none⟩ = some (.int .i64 t138) := (blk_cell BK131.out 2).trans rfl; have hcz21_3 : w20.cell? ⟨gb131, 3, none⟩ = some (.bool t141) := (blk_cell BK131.out 3).trans rfl; have hcz21_4 : w20.cell? ⟨gb131, 4, none⟩ = some (.string (⟨#[]⟩ : ByteArray)) := (blk_cell BK131.out 4).trans rfl; have hcz21_5 : w20.cell? ⟨gb131, 5, none⟩ = some (.int .i64 0) := (blk_cell BK131.out 5).trans rfl; have hfz21_0 := bfz BK131.out 0; have hfz21_1 := bfz BK131.out 1; have hfz21_2 := bfz BK131.out 2; have hfz21_3 := bfz BK131.out 3; have hfz21_4 := bfz BK131.out 4; have hfz21_5 := bfz BK131.out 5) | ((with_reducible refine gate_callee (f := 33) rfl ?_); refine goesL_ (some 23) rfl rfl Tryz.func33 Z76 rfl #[.pointer (some ⟨g, 0, none⟩)] rfl Z4 ?_; (with_reducible refine (wr_number.calls k g s0_0 t145 t146 t147 t148 t149 w0 _ ?side1 ?side2 A7.out).mono ?_); (case side1 => exact Z27); (case side2 => exact Z28); rintro e w22 ⟨rfl, hi, hb, hk⟩; refine ⟨_, rfl, ?_⟩; have n0_ := Ak (KeepBut.blk hk (g' := gb130) (o := .cells #[.int .i64 0, .int .i64 0, .int .i64 0, .bool false, .string (⟨#[]⟩ : ByteArray), .int .i64 0] 110 (0, 0)) Z98 NB130_0.out (by simp)); have n1_ := Ak (KeepBut.blk hk (g' := gb131) (o := .cells #[.int .i64 t132, .int .i64 t135, .int .i64 t138, .bool t141, .string t144, .int .i64 0] 110 (0, 0)) (by refine bz ?_; refine blk_put (cs := #[.int .i64 t132, .int .i64 t135, .int .i64 t138, .bool t141, .string (⟨#[]⟩ : ByteArray), .int .i64 0]) ?_ 4 _ rfl; refine bz ?_; exact BK131.out) NB131_0.out (by simp)); have n2_ := Ak (KeepBut.trans Z33 hk (.inl rfl)); have n3_ := Ak (hb); have n4_ := Ak (hi); clear BK130; clear BK131; clear HK; clear HB; clear HI0; have BK130 := n0_; have BK131 := n1_; have HK := n2_; have HB := n3_; have HI0 := n4_; clear n0_ n1_ n2_ n3_ n4_; (try clear hb); (try clear hb2); (try clear hk); (try clear hi); have hcz23_0 : w22.cell? ⟨gb131, 0, none⟩ = some (.int .i64 t132) := (blk_cell BK131.out 0).trans rfl; have hcz23_1 : w22.cell? ⟨gb131, 1, none⟩ = some (.int .i64 t135) := (blk_cell BK131.out 1).trans rfl; have hcz23_2 : w22.cell? ⟨gb131, 2, none⟩ = some (.int .i64 t138) := (blk_cell BK131.out 2).trans rfl; have hcz23_3 : w22.cell? ⟨gb131, 3, none⟩ = some (.bool t141) := (blk_cell BK131.out 3).trans rfl; have hcz23_4 : w22.cell? ⟨gb131, 4, none⟩ = some (.string t144) := (blk_cell BK131.out 4).trans rfl; have hcz23_5 : w22.cell? ⟨gb131, 5, none⟩ = some (.int .i64 0) := (blk_cell BK131.out 5).trans rfl; have hfz23_0 := bfz BK131.out 0; have hfz23_1 := bfz BK131.out 1; have hfz23_2 := bfz BK131.out 2; have hfz23_3 := bfz BK131.out 3; have hfz23_4 := bfz BK131.out 4; have hfz23_5 := bfz BK131.out 5; have hnb24 := NB130_0.out; have hnc24 := NB0_130.out; have hcz25_0 : w22.cell? ⟨gb130, 0, none⟩ = some (.int .i64 0) := (blk_cell BK130.out 0).trans rfl; have hcz25_1 : w22.cell? ⟨gb130, 1, none⟩ = some (.int .i64 0) := (blk_cell BK130.out 1).trans rfl; have hcz25_2 : w22.cell? ⟨gb130, 2, none⟩ = some (.int .i64 0) := (blk_cell BK130.out 2).trans rfl; have hcz25_3 : w22.cell? ⟨gb130, 3, none⟩ = some (.bool false) := (blk_cell BK130.out 3).trans rfl; have hcz25_4 : w22.cell? ⟨gb130, 4, none⟩ = some (.string (⟨#[]⟩ : ByteArray)) := (blk_cell BK130.out 4).trans rfl; have hcz25_5 : w22.cell? ⟨gb130, 5, none⟩ = some (.int .i64 0) := (blk_cell BK130.out 5).trans rfl; have hfz25_0 := bfz BK130.out 0; have hfz25_1 := bfz BK130.out 1; have hfz25_2 := bfz BK130.out 2; have hfz25_3 := bfz BK130.out 3; have hfz25_4 := bfz BK130.out 4; have hfz25_5 := bfz BK130.out 5))
 refine bodyPost_ret (results_cell_row rfl _ _ gb130 110 #[.int .i64 t132, .int .i64 t135, .int .i64 t138, .bool t141, .string t144, .int .i64 t147] (0, 0) _ rfl (by refine bz ?_; refine blk_put (cs := #[.int .i64 t132, .int .i64 t135, .int .i64 t138, .bool t141, .string t144, .int .i64 0]) ?_ 5 _ rfl; refine bz ?_; refine blk_put (cs := #[.int .i64 t132, .int .i64 t135, .int .i64 t138, .bool t141, .string (⟨#[]⟩ : ByteArray), .int .i64 0]) ?_ 4 _ rfl; refine bz ?_; refine blk_put (cs := #[.int .i64 t132, .int .i64 t135, .int .i64 t138, .bool false, .string (⟨#[]⟩ : ByteArray), .int .i64 0]) ?_ 3 _ rfl; refine bz ?_; refine blk_put (cs := #[.int .i64 t132, .int .i64 t135, .int .i64 0, .bool false, .string (⟨#[]⟩ : ByteArray), .int .i64 0]) ?_ 2 _ rfl; refine bz ?_; refine blk_put (cs := #[.int .i64 t132, .int .i64 0, .int .i64 0, .bool false, .string (⟨#[]⟩ : ByteArray), .int .i64 0]) ?_ 1 _ rfl; refine bz ?_; refine blk_put (cs := #[.int .i64 0, .int .i64 0, .int .i64 0, .bool false, .string (⟨#[]⟩ : ByteArray), .int .i64 0]) ?_ 0 _ rfl; refine bz ?_; refine blk_far ?_ NB130_131.out _; refine bz ?_; exact BK130.out) Tryz.underlying110 rfl Z76) rfl ?_
 exact ⟨Z6, Z27, Z28, Z33⟩
mutual
def api_Cell.j0 : Nat → Int → Bool → List Int → Int → Bool → Option ((List (S110)) × Int × Bool)
 | 0, _, _, _, _, _ => none
 | k + 1, x5, x31, x1000, x1001, x1002 => if x31 = true then (some (([] : List (S110)), x1001, true)) else (api_Cell.l0 k x5 ([] : List (S110)) 0 x1000 x1001 x1002)
def api_Cell.l0 : Nat → Int → List (S110) → Int → List Int → Int → Bool → Option ((List (S110)) × Int × Bool)
 | 0, _, _, _, _, _, _ => none
 | k + 1, x5, x6, x7, x1000, x1001, x1002 => if x7 < x5 then (if x1002 = true then (some (x6, x1001, x1002)) else ((wr_write.f k x1000 x1001 x1002).bind fun bt153 => (if x6.length < 2513169434916 then (api_Cell.l0 k x5 (x6 ++ [(⟨bt153.1, bt153.2.1, (⟨bt153.2.2.1, bt153.2.2.2.1, bt153.2.2.2.2.1, bt153.2.2.2.2.2.1⟩ : S108)⟩ : S110)]) (wrap64 (x7 + 1)) x1000 bt153.2.2.2.2.2.2.1 bt153.2.2.2.2.2.2.2) else (none)))) else (some (x6, x1001, x1002))
end
def api_Cell.f (k : Nat) (s0_0 : List Int) (s0_1 : Int) (s0_2 : Bool) : Option ((List (S110)) × Int × Bool) := (wr_number.f k s0_0 s0_1 s0_2).bind fun bt150 => (if bt150.2.2 = true then (api_Cell.j0 k bt150.1 true s0_0 bt150.2.1 bt150.2.2) else (if bt150.1 < 0 then (api_Cell.j0 k bt150.1 true s0_0 bt150.2.1 bt150.2.2) else (api_Cell.j0 k bt150.1 (decide (bt150.1 > (wrap64 ((s0_0.length : Int) - bt150.2.1)))) s0_0 bt150.2.1 bt150.2.2)))
set_option maxHeartbeats 8000000 in
set_option maxRecDepth 100000 in
theorem api_Cell.calls (k : Nat) (g : Nat) (s0_0 : List Int) (s0_1 : Int) (s0_2 : Bool) (r1 : List (S110)) (r2 : Int) (r3 : Bool) (w0 w : World) (hI : IsS77 w0 w g s0_0 s0_1 s0_2) (hB : Below w0.heap.size w0 w) (h : api_Cell.f k s0_0 s0_1 s0_2 = some (r1, r2, r3)) :
  Calls Tryz.prog 70 #[.pointer (some ⟨g, 0, none⟩), .func (.func 71) #[.pointer (some ⟨g, 0, none⟩)] #[]] w fun e w' => ∃ v0_ : Value, e = .returned (v0_) ∧ Kd.R k110 110 w' w.heap.size (fun _ => True) v0_ r1 ∧ IsS77 w0 w' g s0_0 r2 r3 ∧ Below w0.heap.size w0 w' ∧ KeepBut w w' g none := by
 have HI0 := Ak hI
 have HK := Ak (KeepBut.refl w g none)
 have HL := Ak hB.size
 clear hI
 have HW0 := Ak hB.size
 have HB := Ak hB
 clear hB
 have H : ((wr_number.f k s0_0 s0_1 s0_2).bind fun bt150 => (if bt150.2.2 = true then (api_Cell.j0 k bt150.1 true s0_0 bt150.2.1 bt150.2.2) else (if bt150.1 < 0 then (api_Cell.j0 k bt150.1 true s0_0 bt150.2.1 bt150.2.2) else (api_Cell.j0 k bt150.1 (decide (bt150.1 > (wrap64 ((s0_0.length : Int) - bt150.2.1)))) s0_0 bt150.2.1 bt150.2.2)))) = some (r1, r2, r3) := h
 clear h
 replace H := Option.bind_eq_some_iff.mp H
 obtain ⟨⟨t150, t151, t152⟩, A20, H⟩ := H
 replace H : (if t152 = true then (api_Cell.j0 k t150 true s0_0 t151 t152) else (if t150 < 0 then (api_Cell.j0 k t150 true s0_0 t151 t152) else (api_Cell.j0 k t150 (decide (t150 > (wrap64 ((s0_0.length : Int) - t151)))) s0_0 t151 t152))) = some (r1, r2, r3) := H
 have A2 := Ak A20
 clear A20
 have HC3 := Ak H
 clear H
 go_enter Tryz.func70, Tryz.ntmps70
 go_upto_region 2 with (first | (go_at_call 33; (with_reducible refine (wr_number.calls k g s0_0 s0_1 s0_2 t150 t151 t152 w0 _ ?side1 ?side2 A2.out).mono ?_); (case side1 => exact Z3); (case side2 => exact Z2); rintro e w4 ⟨rfl, hi, hb, hk⟩; have n0_ := Ak (KeepBut.trans Z0 hk (.inl rfl)); have n1_ := Ak (hb); have n2_ := Ak (hi); clear HK; clear HB; clear HI0; have HK := n0_; have HB := n1_; have HI0 := n2_; clear n0_ n1_ n2_; (try clear hb); (try clear hb2); (try clear hk); (try clear hi)))
 repeat (go_quiet (first | (go_at_call 33; (with_reducible refine (wr_number.calls k g s0_0 s0_1 s0_2 t150 t151 t152 w0 _ ?side1 ?side2 A2.out).mono ?_); (case side1 => exact Z3); (case side2 => exact Z2); rintro e w4 ⟨rfl, hi, hb, hk⟩; have n0_ := Ak (KeepBut.trans Z0 hk (.inl rfl)); have n1_ := Ak (hb); have n2_ := Ak (hi); clear HK; clear HB; clear HI0; have HK := n0_; have HB := n1_; have HI0 := n2_; clear n0_ n1_ n2_; (try clear hb); (try clear hb2); (try clear hk); (try clear hi))); go_upto_region 2 with (first | (go_at_call 33; (with_reducible refine (wr_number.calls k g s0_0 s0_1 s0_2 t150 t151 t152 w0 _ ?side1 ?side2 A2.out).mono ?_); (case side1 => exact Z3); (case side2 => exact Z2); rintro e w4 ⟨rfl, hi, hb, hk⟩; have n0_ := Ak (KeepBut.trans Z0 hk (.inl rfl)); have n1_ := Ak (hb); have n2_ := Ak (hi); clear HK; clear HB; clear HI0; have HK := n0_; have HB := n1_; have HI0 := n2_; clear n0_ n1_ n2_; (try clear hb); (try clear hb2); (try clear hk); (try clear hi))))
 (try simp only [Act.put, List.setIfInBounds_toArray, List.set_cons_zero, List.set_cons_succ])
 go_cut [31] (fun v31 wc => ∃ (kq : Nat) (x31_2 : Bool), v31 = .bool x31_2 ∧ Aside0 (api_Cell.j0 kq t150 x31_2 s0_0 t151 t152 = some (r1, r2, r3)) ∧ Aside0 (kq ≤ k) ∧ Aside0 (IsS77 w0 wc g s0_0 t151 t152) ∧ Aside0 (KeepBut w wc g none) ∧ Aside0 (Below w0.heap.size w0 wc))
 case first =>
  have H := HC3.out
  clear HC3
  by_cases c5 : t152 = true
  ·subst c5
   have H1 : (api_Cell.j0 k t150 true s0_0 t151 true) = some (r1, r2, r3) := by rw [if_pos rfl] at H; exact H
   clear H
   have H := H1
   clear H1
   have H' := Ak H
   clear H
   obtain ⟨ASz6_0, cSz6_0, HGz6, hgz6, HSz6_0⟩ := HI0.out
   have hcz6_0 := cellS77_0 HGz6
   have hcz6_1 := cellS77_1 HGz6
   have hcz6_2 := cellS77_2 HGz6
   have hfz6_1 := bfz HGz6 1
   have hfz6_2 := bfz HGz6 2
   clear HGz6 hgz6
   go_wp2
   repeat (go_quiet (fail); try go_wp2)
   go_meet
   case rel => exact ⟨_, (true), Z11, H', ⟨Z63⟩, ⟨Z3⟩, ⟨Z0⟩, ⟨Z2⟩⟩
  ·replace c5 := Bool.eq_false_iff.mpr c5
   subst c5
   have H1 : (if t150 < 0 then (api_Cell.j0 k t150 true s0_0 t151 false) else (api_Cell.j0 k t150 (decide (t150 > (wrap64 ((s0_0.length : Int) - t151)))) s0_0 t151 false)) = some (r1, r2, r3) := by rw [if_neg (show ¬ (false = true) by decide)] at H; exact H
   clear H
   have H := H1
   clear H1
   by_cases c7 : t150 < 0
   ·rw [if_pos c7] at H
    have c7b0 : decide (t150 < 0) = true := decide_eq_true c7
    clear c7
    (first | rw [c7b0] | (simp only [i64_w, i32_w]; rw [c7b0]) | skip)
    have H' := Ak H
    clear H
    obtain ⟨ASz8_0, cSz8_0, HGz8, hgz8, HSz8_0⟩ := HI0.out
    have hcz8_0 := cellS77_0 HGz8
    have hcz8_1 := cellS77_1 HGz8
    have hcz8_2 := cellS77_2 HGz8
    have hfz8_1 := bfz HGz8 1
    have hfz8_2 := bfz HGz8 2
    clear HGz8 hgz8
    go_wp2
    repeat (go_quiet (fail); try go_wp2)
    go_meet
    case rel => exact ⟨_, (true), Z11, H', ⟨Z63⟩, ⟨Z3⟩, ⟨Z0⟩, ⟨Z2⟩⟩
   ·rw [if_neg c7] at H
    have c7b0 : decide (t150 < 0) = false := decide_eq_false c7
    clear c7
    (first | rw [c7b0] | (simp only [i64_w, i32_w]; rw [c7b0]) | skip)
    have H' := Ak H
    clear H
    obtain ⟨ASz9_0, cSz9_0, HGz9, hgz9, HSz9_0⟩ := HI0.out
    have hcz9_0 := cellS77_0 HGz9
    have hcz9_1 := cellS77_1 HGz9
    have hcz9_2 := cellS77_2 HGz9
    have hfz9_1 := bfz HGz9 1
    have hfz9_2 := bfz HGz9 2
    clear HGz9 hgz9
    go_wp2
    repeat (go_quiet (fail); try go_wp2)
    go_meet
    case rel => exact ⟨_, (decide (t150 > (wrap64 ((s0_0.length : Int) - t151)))), Z11, H', ⟨Z63⟩, ⟨Z3⟩, ⟨Z0⟩, ⟨Z2⟩⟩
 case rest =>
  clear HC3
  try clear p2
  try clear c5
  try clear p6
  try clear c7
  try clear c7b0
  try clear hcz6_0
  try clear hcz6_1
  try clear hcz6_2
  try clear hcz8_0
  try clear hcz8_1
  try clear hcz8_2
  try clear hcz9_0
  try clear hcz9_1
  try clear hcz9_2
  try clear hfz6_1
  try clear hfz6_2
  try clear hfz8_1
  try clear hfz8_2
  try clear hfz9_1
  try clear hfz9_2
  obtain ⟨kq, x31_2, rfl, HA, HJ2, HI0, HK, HB⟩ := hcut
  cases kq with
  | zero => exact absurd HA.out (by simp [api_Cell.j0])
  | succ kj2 =>
   have H := HA.out
   clear HA
   simp only [api_Cell.j0] at H
   by_cases c10 : x31_2 = true
   ·subst c10
    have H1 : (some (([] : List (S110)), t151, true)) = some (r1, r2, r3) := by rw [if_pos rfl] at H; exact H
    clear H
    have H := H1
    clear H1
    simp only [Option.some.injEq, Prod.mk.injEq] at H
    obtain ⟨rfl, rfl, rfl⟩ := H
    obtain ⟨ASz11_0, cSz11_0, HGz11, hgz11, HSz11_0⟩ := HI0.out
    have hcz11_0 := cellS77_0 HGz11
    have hcz11_1 := cellS77_1 HGz11
    have hcz11_2 := cellS77_2 HGz11
    have hfz11_1 := bfz HGz11 1
    have hfz11_2 := bfz HGz11 2
    clear HGz11 hgz11
    go_wp2
    repeat (go_quiet (fail); try go_wp2)
    go_ret
    exact ⟨_, Z6, Z8, Z3, Z2, Z0⟩
   ·replace c10 := Bool.eq_false_iff.mpr c10
    subst c10
    have H1 : (api_Cell.l0 kj2 t150 ([] : List (S110)) 0 s0_0 t151 t152) = some (r1, r2, r3) := by rw [if_neg (show ¬ (false = true) by decide)] at H; exact H
    clear H
    have H := H1
    clear H1
    have H' := Ak H
    clear H
    go_wp2
    repeat (go_quiet (fail); try go_wp2)
    go_loopg [6, 7] kj2 (fun kq v6 v7 w' => ∃ (x6_2 : List (S110)) (x7_2 : Int) (x1001_2 : Int) (x1002_2 : Bool), v7 = .int .i64 x7_2 ∧ Aside0 (api_Cell.l0 kq t150 x6_2 x7_2 s0_0 x1001_2 x1002_2 = some (r1, r2, r3)) ∧ Aside0 (kq ≤ kj2) ∧ Aside0 (Kd.R k110 110 w' w.heap.size (fun _ => True) v6 x6_2) ∧ Aside0 (IsS77 w0 w' g s0_0 x1001_2 x1002_2) ∧ Aside0 (KeepBut w w' g none) ∧ Aside0 (Below w0.heap.size w0 w'))
    case atStart => exact ⟨(([] : List (S110))), (0), (t151), (t152), Z11, H', ⟨Nat.le_refl _⟩, ⟨Z8⟩, ⟨Z3⟩, ⟨Z0⟩, ⟨Z2⟩⟩
    case round =>
     clear H'
     try clear c1
     try clear p2
     try clear c5
     try clear p6
     try clear c7
     try clear c7b0
     try clear c10
     try clear hcz11_0
     try clear hcz11_1
     try clear hcz11_2
     try clear hcz6_0
     try clear hcz6_1
     try clear hcz6_2
     try clear hcz8_0
     try clear hcz8_1
     try clear hcz8_2
     try clear hcz9_0
     try clear hcz9_1
     try clear hcz9_2
     try clear hfz11_1
     try clear hfz11_2
     try clear hfz6_1
     try clear hfz6_2
     try clear hfz8_1
     try clear hfz8_2
     try clear hfz9_1
     try clear hfz9_2
     try clear p2
     try clear p6
     obtain ⟨x6_2, x7_2, x1001_2, x1002_2, rfl, HA, HK2, HO_6, HI0, HK, HB⟩ := hrel
     cases gk with
     | zero => exact absurd HA.out (by simp [api_Cell.l0])
     | succ k2 =>
      have H := HA.out
      clear HA
      simp only [api_Cell.l0] at H
      by_cases c12 : x7_2 < t150
      ·rw [if_pos c12] at H
       have c12b0 : decide (x7_2 < t150) = true := decide_eq_true c12
       clear c12
       by_cases c13 : x1002_2 = true
       ·subst c13
        have H1 : (some (x6_2, x1001_2, true)) = some (r1, r2, r3) := by rw [if_pos rfl] at H; exact H
        clear H
        have H := H1
        clear H1
        simp only [Option.some.injEq, Prod.mk.injEq] at H
        obtain ⟨rfl, rfl, rfl⟩ := H
        obtain ⟨ASz14_0, cSz14_0, HGz14, hgz14, HSz14_0⟩ := HI0.out
        have hcz14_0 := cellS77_0 HGz14
        have hcz14_1 := cellS77_1 HGz14
        have hcz14_2 := cellS77_2 HGz14
        have hfz14_1 := bfz HGz14 1
        have hfz14_2 := bfz HGz14 2
        clear HGz14 hgz14
        go_wp2
        repeat (go_quiet (fail); try go_wp2)
        go_ret
        exact ⟨_, Z6, Z26, Z3, Z2, Z0⟩
       ·replace c13 := Bool.eq_false_iff.mpr c13
        subst c13
        have H1 : ((wr_write.f k2 s0_0 x1001_2 false).bind fun bt153 => (if x6_2.length < 2513169434916 then (api_Cell.l0 k2 t150 (x6_2 ++ [(⟨bt153.1, bt153.2.1, (⟨bt153.2.2.1, bt153.2.2.2.1, bt153.2.2.2.2.1, bt153.2.2.2.2.2.1⟩ : S108)⟩ : S110)]) (wrap64 (x7_2 + 1)) s0_0 bt153.2.2.2.2.2.2.1 bt153.2.2.2.2.2.2.2) else (none))) = some (r1, r2, r3) := by rw [if_neg (show ¬ (false = true) by decide)] at H; exact H
        clear H
        have H := H1
        clear H1
        replace H := Option.bind_eq_some_iff.mp H
        obtain ⟨⟨t153, t154, t155, t156, t157, t158, t159, t160⟩, A150, H⟩ := H
        replace H : (if x6_2.length < 2513169434916 then (api_Cell.l0 k2 t150 (x6_2 ++ [(⟨t153, t154, (⟨t155, t156, t157, t158⟩ : S108)⟩ : S110)]) (wrap64 (x7_2 + 1)) s0_0 t159 t160) else (none)) = some (r1, r2, r3) := H
        have A15 := Ak A150
        clear A150
        by_cases c16 : x6_2.length < 2513169434916
        ·rw [if_pos c16] at H
         have LMc16 := Ak c16
         clear c16
         obtain ⟨y161, hy161⟩ : ∃ y_ : List (S110), y_ = (x6_2 ++ [(⟨t153, t154, (⟨t155, t156, t157, t158⟩ : S108)⟩ : S110)]) := ⟨_, rfl⟩
         replace H : (api_Cell.l0 k2 t150 y161 (wrap64 (x7_2 + 1)) s0_0 t159 t160) = some (r1, r2, r3) := by first | (rw [hy161]; with_reducible exact H) | (have H2_ := (Option.bind_some _ _).symm.trans H; rw [hy161]; with_reducible exact H2_) | (have H2_ := (Option.bind_some _ _).symm.trans H; with_reducible exact H2_) | with_reducible exact H | (rw [hy161]; exact H) | exact H
         have Ny161 := Ak hy161
         clear hy161
         have H' := Ak H
         clear H
         obtain ⟨ASz17_0, cSz17_0, HGz17, hgz17, HSz17_0⟩ := HI0.out
         have hcz17_0 := cellS77_0 HGz17
         have hcz17_1 := cellS77_1 HGz17
         have hcz17_2 := cellS77_2 HGz17
         have hfz17_1 := bfz HGz17 1
         have hfz17_2 := bfz HGz17 2
         clear HGz17 hgz17
         go_wp2_with (first | (go_at_call 71; (with_reducible refine (wr_write.calls k2 g s0_0 x1001_2 false t153 t154 t155 t156 t157 t158 t159 t160 w0 _ ?side1 ?side2 A15.out).mono ?_); (case side1 => exact Z3); (case side2 => exact Z2); rintro e w18 ⟨rfl, hi, hb, hk⟩; have n0_ := Ak (Kd.R_mono (Kd.R_keep (IsS77.apart (show IsS77 w0 _ g s0_0 x1001_2 false from by repeat (first | (with_reducible first | exact HI0.out | apply IsS77.alloc | apply IsS77.drewN | apply IsS77.drew | apply IsS77.set_1 | apply IsS77.set_2) | exact HI0.out)) Z26 (by decide)) hk (fun _ h => h.2)) (fun _ h => h.1)); have n1_ := Ak (KeepBut.trans Z0 hk (.inl rfl)); have n2_ := Ak (hb); have n3_ := Ak (hi); clear HO_6; clear HK; clear HB; clear HI0; have HO_6 := n0_; have HK := n1_; have HB := n2_; have HI0 := n3_; clear n0_ n1_ n2_ n3_; (try clear hb); (try clear hb2); (try clear hk); (try clear hi)) | ((with_reducible refine gate_builtin (b := .append) (xs := #[.tmp 47, .tmp 50]) rfl ?_); (try (refine gate_guard (by rfl) ?_; dsimp only)); at_builtin; refine Kd.R_append k110 w.heap.size rfl (.tmp 47) (.tmp 50) 33 110 (.agg #[(.int .i64 0), (.int .i64 0), (.int .i64 0), (.bool false), (.string ⟨#[]⟩), (.int .i64 0)]) 56 rfl Tryz.underlying33 info110 rfl (by decide) (by omega) u6 x6_2 (⟨t153, t154, (⟨t155, t156, t157, t158⟩ : S108)⟩ : S110) [.int .i64 t153, .int .i64 t154, .int .i64 t155, .bool t156, .string t157, .int .i64 t158] (fun _ => True) (fun _ => False) rfl rfl ?aP (fun _ hk => hk.elim) ?aF ?aO (Below.refl _ _) ?aS ?aL ?_; (case aP => exact k110_mkM _ _ _ (⟨t153, t154, (⟨t155, t156, t157, t158⟩ : S108)⟩ : S110)); (case aF => exact (fun _ _ => trivial)); (case aO => exact Z26); (case aS => exact Z78); (case aL => have := LMc16.out; omega); intro v162 w19 ho hb hg hat; rw [← Ny161.out] at ho; have n0_ := Ak (IsS77.grown Z3 hg (IsS77.own_ne HI0.out HO_6.out (by decide))); have n1_ := Ak (below_weaken Z2 HL.out hb); have n2_ := Ak (KeepBut.trans Z0 (KeepBut.of_grown hg g) (Kd.R_base2 HO_6.out)); have n3_ := Ak (ho); clear HI0; clear HB; clear HK; clear HO_6; have HI0 := n0_; have HB := n1_; have HK := n2_; have HO163 := n3_; clear n0_ n1_ n2_ n3_; clear ho hb hg hat))
         repeat (go_quiet (first | (go_at_call 71; (with_reducible refine (wr_write.calls k2 g s0_0 x1001_2 false t153 t154 t155 t156 t157 t158 t159 t160 w0 _ ?side1 ?side2 A15.out).mono ?_); (case side1 => exact Z3); (case side2 => exact Z2); rintro e w18 ⟨rfl, hi, hb, hk⟩; have n0_ := Ak (Kd.R_mono (Kd.R_keep (IsS77.apart (show IsS77 w0 _ g s0_0 x1001_2 false from by repeat (first | (with_reducible first | exact HI0.out | apply IsS77.alloc | apply IsS77.drewN | apply IsS77.drew | apply IsS77.set_1 | apply IsS77.set_2) | exact HI0.out)) Z26 (by decide)) hk (fun _ h => h.2)) (fun _ h => h.1)); have n1_ := Ak (KeepBut.trans Z0 hk (.inl rfl)); have n2_ := Ak (hb); have n3_ := Ak (hi); clear HO_6; clear HK; clear HB; clear HI0; have HO_6 := n0_; have HK := n1_; have HB := n2_; have HI0 := n3_; clear n0_ n1_ n2_ n3_; (try clear hb); (try clear hb2); (try clear hk); (try clear hi)) | ((with_reducible refine gate_builtin (b := .append) (xs := #[.tmp 47, .tmp 50]) rfl ?_); (try (refine gate_guard (by rfl) ?_; dsimp only)); at_builtin; refine Kd.R_append k110 w.heap.size rfl (.tmp 47) (.tmp 50) 33 110 (.agg #[(.int .i64 0), (.int .i64 0), (.int .i64 0), (.bool false), (.string ⟨#[]⟩), (.int .i64 0)]) 56 rfl Tryz.underlying33 info110 rfl (by decide) (by omega) u6 x6_2 (⟨t153, t154, (⟨t155, t156, t157, t158⟩ : S108)⟩ : S110) [.int .i64 t153, .int .i64 t154, .int .i64 t155, .bool t156, .string t157, .int .i64 t158] (fun _ => True) (fun _ => False) rfl rfl ?aP (fun _ hk => hk.elim) ?aF ?aO (Below.refl _ _) ?aS ?aL ?_; (case aP => exact k110_mkM _ _ _ (⟨t153, t154, (⟨t155, t156, t157, t158⟩ : S108)⟩ : S110)); (case aF => exact (fun _ _ => trivial)); (case aO => exact Z26); (case aS => exact Z78); (case aL => have := LMc16.out; omega); intro v162 w19 ho hb hg hat; rw [← Ny161.out] at ho; have n0_ := Ak (IsS77.grown Z3 hg (IsS77.own_ne HI0.out HO_6.out (by decide))); have n1_ := Ak (below_weaken Z2 HL.out hb); have n2_ := Ak (KeepBut.trans Z0 (KeepBut.of_grown hg g) (Kd.R_base2 HO_6.out)); have n3_ := Ak (ho); clear HI0; clear HB; clear HK; clear HO_6; have HI0 := n0_; have HB := n1_; have HK := n2_; have HO163 := n3_; clear n0_ n1_ n2_ n3_; clear ho hb hg hat)); try go_wp2_with (first | (go_at_call 71; (with_reducible refine (wr_write.calls k2 g s0_0 x1001_2 false t153 t154 t155 t156 t157 t158 t159 t160 w0 _ ?side1 ?side2 A15.out).mono ?_); (case side1 => exact Z3); (case side2 => exact Z2); rintro e w18 ⟨rfl, hi, hb, hk⟩; have n0_ := Ak (Kd.R_mono (Kd.R_keep (IsS77.apart (show IsS77 w0 _ g s0_0 x1001_2 false from by repeat (first | (with_reducible first | exact HI0.out | apply IsS77.alloc | apply IsS77.drewN | apply IsS77.drew | apply IsS77.set_1 | apply IsS77.set_2) | exact HI0.out)) Z26 (by decide)) hk (fun _ h => h.2)) (fun _ h => h.1)); have n1_ := Ak (KeepBut.trans Z0 hk (.inl rfl)); have n2_ := Ak (hb); have n3_ := Ak (hi); clear HO_6; clear HK; clear HB; clear HI0; have HO_6 := n0_; have HK := n1_; have HB := n2_; have HI0 := n3_; clear n0_ n1_ n2_ n3_; (try clear hb); (try clear hb2); (try clear hk); (try clear hi)) | ((with_reducible refine gate_builtin (b := .append) (xs := #[.tmp 47, .tmp 50]) rfl ?_); (try (refine gate_guard (by rfl) ?_; dsimp only)); at_builtin; refine Kd.R_append k110 w.heap.size rfl (.tmp 47) (.tmp 50) 33 110 (.agg #[(.int .i64 0), (.int .i64 0), (.int .i64 0), (.bool false), (.string ⟨#[]⟩), (.int .i64 0)]) 56 rfl Tryz.underlying33 info110 rfl (by decide) (by omega) u6 x6_2 (⟨t153, t154, (⟨t155, t156, t157, t158⟩ : S108)⟩ : S110) [.int .i64 t153, .int .i64 t154, .int .i64 t155, .bool t156, .string t157, .int .i64 t158] (fun _ => True) (fun _ => False) rfl rfl ?aP (fun _ hk => hk.elim) ?aF ?aO (Below.refl _ _) ?aS ?aL ?_; (case aP => exact k110_mkM _ _ _ (⟨t153, t154, (⟨t155, t156, t157, t158⟩ : S108)⟩ : S110)); (case aF => exact (fun _ _ => trivial)); (case aO => exact Z26); (case aS => exact Z78); (case aL => have := LMc16.out; omega); intro v162 w19 ho hb hg hat; rw [← Ny161.out] at ho; have n0_ := Ak (IsS77.grown Z3 hg (IsS77.own_ne HI0.out HO_6.out (by decide))); have n1_ := Ak (below_weaken Z2 HL.out hb); have n2_ := Ak (KeepBut.trans Z0 (KeepBut.of_grown hg g) (Kd.R_base2 HO_6.out)); have n3_ := Ak (ho); clear HI0; clear HB; clear HK; clear HO_6; have HI0 := n0_; have HB := n1_; have HK := n2_; have HO163 := n3_; clear n0_ n1_ n2_ n3_; clear ho hb hg hat)))
         go_roundg k2
         case measure => have := HJ2.out; have := HK2.out; omega
         case rel => exact ⟨(y161), (wrap64 (x7_2 + 1)), (t159), (t160), Z11, H', ⟨by have := HJ2.out; have := HK2.out; omega⟩, ⟨by (with_reducible repeat (first | apply Kd.R_alloc | apply Kd.R_drewN | apply Kd.R_drew)); exact HO163.out⟩, ⟨Z3⟩, ⟨Z0⟩, ⟨Z2⟩⟩
        ·rw [if_neg c16] at H
         exact absurd H (by simp)
      ·rw [if_neg c12] at H
       have c12b0 : decide (x7_2 < t150) = false := decide_eq_false c12
       clear c12
       simp only [Option.some.injEq, Prod.mk.injEq] at H
       obtain ⟨rfl, rfl, rfl⟩ := H
       go_wp2
       repeat (go_quiet (fail); try go_wp2)
       go_ret
       exact ⟨_, Z6, Z26, Z3, Z2, Z0⟩
end Go.Proofs.YtmmjnbpoilicjaaGreat.Q
