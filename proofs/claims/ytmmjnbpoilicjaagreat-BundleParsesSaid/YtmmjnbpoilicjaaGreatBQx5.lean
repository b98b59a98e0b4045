/- What functions of the program compute, and that their code computes it (turned out of what the printer of the kit wrote), part 4. -/
import Derived.Test.YtmmjnbpoilicjaaGreatBQa
import Derived.Test.YtmmjnbpoilicjaaGreatBQx0
set_option linter.unusedVariables false
set_option linter.unusedSimpArgs false
namespace Go.Proofs.YtmmjnbpoilicjaaGreat.Q
open Go.RowKit Go.Proofs.YtmmjnbpoilicjaaGreatW.PrintWords Go.Proofs.YtmmjnbpoilicjaaGreatW.PrintLast Go.Proofs.YtmmjnbpoilicjaaGreatW.PrintMore
attribute [local go_sem] max2_int min2_int max_two min_two max_three min_three max_four min_four   -- for this text's walks alone
mutual
def r9_GetInt.j0 : Nat → List Int → Int → Bool → Option (Int × Int × Int)
 | 0, _, _, _ => none
 | k + 1, x0, x1, x18 => if x18 = true then (some (0, 0, 13)) else (r9_GetInt.l0 k x0 x1 0 0)
def r9_GetInt.l0 : Nat → List Int → Int → Int → Int → Option (Int × Int × Int)
 | 0, _, _, _, _ => none
 | k + 1, x0, x1, x7, x8 => if x8 < 10 then (r9_GetInt.j2 k x0 x1 x7 x8 (decide ((wrap64 (x1 + x8)) < (x0.length : Int)))) else (r9_GetInt.j2 k x0 x1 x7 x8 false)
def r9_GetInt.j2 : Nat → List Int → Int → Int → Int → Bool → Option (Int × Int × Int)
 | 0, _, _, _, _, _ => none
 | k + 1, x0, x1, x7, x8, x28 => if x28 = true then (if 0 ≤ (wrap64 (x1 + x8)) then (if (wrap64 (x1 + x8)) < (x0.length : Int) then (if x8 = 9 then (r9_GetInt.j3 k x0 x1 x7 x8 (IntKind.u64.wrap (rd x0 (wrap64 (x1 + x8)))) (decide ((IntKind.u64.wrap (rd x0 (wrap64 (x1 + x8)))) > 1))) else (r9_GetInt.j3 k x0 x1 x7 x8 (IntKind.u64.wrap (rd x0 (wrap64 (x1 + x8)))) false)) else (none)) else (none)) else (some (0, 0, 13))
def r9_GetInt.j3 : Nat → List Int → Int → Int → Int → Int → Bool → Option (Int × Int × Int)
 | 0, _, _, _, _, _, _ => none
 | k + 1, x0, x1, x7, x8, x9, x43 => if x43 = true then (some (0, 0, 13)) else (if 0 ≤ (wrap64 (7 * x8)) then (if x9 > 127 then (r9_GetInt.l0 k x0 x1 (Go.bits .or .u64 x7 (shl .u64 (Int.tmod x9 128) (wrap64 (7 * x8)))) (wrap64 (x8 + 1))) else (if x9 = 0 then (r9_GetInt.j4 k x1 (Go.bits .or .u64 x7 (shl .u64 (Int.tmod x9 128) (wrap64 (7 * x8)))) x8 (decide (x8 > 0))) else (r9_GetInt.j4 k x1 (Go.bits .or .u64 x7 (shl .u64 (Int.tmod x9 128) (wrap64 (7 * x8)))) x8 false))) else (none))
def r9_GetInt.j4 : Nat → Int → Int → Int → Bool → Option (Int × Int × Int)
 | 0, _, _, _, _ => none
 | k + 1, x1, x7, x8, x58 => if x58 = true then (some (0, 0, 13)) else (if (Int.tmod x7 2) = 1 then (some (wrap64 ((wrap64 (-(wrap64 (IntKind.u64.wrap (Int.tdiv x7 2))))) - 1), wrap64 ((wrap64 (x1 + x8)) + 1), 0)) else (some (wrap64 (IntKind.u64.wrap (Int.tdiv x7 2)), wrap64 ((wrap64 (x1 + x8)) + 1), 0)))
end
def r9_GetInt.f (k : Nat) (l0 : List Int) (a1 : Int) : Option (Int × Int × Int) := if a1 < 0 then (r9_GetInt.j0 k l0 a1 true) else (r9_GetInt.j0 k l0 a1 (decide (a1 > (l0.length : Int))))
set_option maxHeartbeats 8000000 in
set_option maxRecDepth 100000 in
theorem r9_GetInt.calls (k : Nat) (A0 : Option Addr) (c0 : Nat) (l0 : List Int) (a1 : Int) (r1 : Int) (r2 : Int) (r3 : Int) (w : World) (hr0 : Kd.C (Kd.int .u8) w A0 l0.length l0) (hc0 : l0.length ≤ c0) (h : r9_GetInt.f k l0 a1 = some (r1, r2, r3)) :
  Calls Tryz.prog 37 #[.slice A0 l0.length c0, .int .i64 a1] w fun e w' => e = .returned (.tuple #[.int .i64 r1, .int .i64 r2, .int .i64 r3]) ∧ Drawn0 w w' := by
 have HR0 := Ak hr0
 have HC0 := Ak hc0
 clear hr0 hc0
 have H : (if a1 < 0 then (r9_GetInt.j0 k l0 a1 true) else (r9_GetInt.j0 k l0 a1 (decide (a1 > (l0.length : Int))))) = some (r1, r2, r3) := h
 clear h
 have HC3 := Ak H
 clear H
 go_enter Tryz.func37, Tryz.ntmps37
 go_upto_region 1 with (fail)
 go_cut [18] (fun v18 wc => ∃ (kq : Nat) (x18_2 : Bool), v18 = .bool x18_2 ∧ Aside0 (r9_GetInt.j0 kq l0 a1 x18_2 = some (r1, r2, r3)) ∧ Aside0 (kq ≤ k) ∧ Drawn0 w wc)
 case first =>
  have H := HC3.out
  clear HC3
  by_cases c4 : a1 < 0
  ·rw [if_pos c4] at H
   have c4b0 : decide (a1 < 0) = true := decide_eq_true c4
   clear c4
   (first | rw [c4b0] | (simp only [i64_w, i32_w]; rw [c4b0]) | skip)
   have H' := Ak H
   clear H
   go_wp2
   go_meet
   case rel => exact ⟨_, (true), Z11, H', ⟨Z63⟩, Z18⟩
  ·rw [if_neg c4] at H
   have c4b0 : decide (a1 < 0) = false := decide_eq_false c4
   clear c4
   (first | rw [c4b0] | (simp only [i64_w, i32_w]; rw [c4b0]) | skip)
   have H' := Ak H
   clear H
   go_wp2
   go_meet
   case rel => exact ⟨_, (decide (a1 > (l0.length : Int))), Z11, H', ⟨Z63⟩, Z18⟩
 case rest =>
  clear HC3
  try clear p2
  try clear c3
  try clear c4
  try clear c4b0
  obtain ⟨kq, x18_2, rfl, HA, HJ2, ⟨mc2, rfl⟩⟩ := hcut
  cases kq with
  | zero => exact absurd HA.out (by simp [r9_GetInt.j0])
  | succ kj2 =>
   have H := HA.out
   clear HA
   simp only [r9_GetInt.j0] at H
   by_cases c5 : x18_2 = true
   ·subst c5
    have H1 : (some (0, 0, 13)) = some (r1, r2, r3) := by rw [if_pos rfl] at H; exact H
    clear H
    have H := H1
    clear H1
    simp only [Option.some.injEq, Prod.mk.injEq] at H
    obtain ⟨rfl, rfl, rfl⟩ := H
    go_wp2
    go_ret3
    exact ⟨Z11, Z18⟩
   ·replace c5 := Bool.eq_false_iff.mpr c5
    subst c5
    have H1 : (r9_GetInt.l0 kj2 l0 a1 0 0) = some (r1, r2, r3) := by rw [if_neg (show ¬ (false = true) by decide)] at H; exact H
    clear H
    have H := H1
    clear H1
    have H' := Ak H
    clear H
    go_wp2
    go_loopg [7, 8] kj2 (fun kq v7 v8 w' => ∃ (x7_2 : Int) (x8_2 : Int), v7 = .int .u64 x7_2 ∧ v8 = .int .i64 x8_2 ∧ Aside0 (r9_GetInt.l0 kq l0 a1 x7_2 x8_2 = some (r1, r2, r3)) ∧ Aside0 (kq ≤ kj2) ∧ Drawn0 w w')
    case atStart => exact ⟨(0), (0), Z11, Z11, H', ⟨Nat.le_refl _⟩, Z18⟩
    case round =>
     clear H'
     try clear c2
     try clear p2
     try clear c3
     try clear c4
     try clear c4b0
     try clear c5
     try clear p2
     obtain ⟨x7_2, x8_2, rfl, rfl, HA, HK2, ⟨m2, rfl⟩⟩ := hrel
     cases gk with
     | zero => exact absurd HA.out (by simp [r9_GetInt.l0])
     | succ k2 =>
      have H := HA.out
      clear HA
      simp only [r9_GetInt.l0] at H
      have HC6 := Ak H
      clear H
      go_upto_region 5 with (fail)
      go_cut [28] (fun v28 wc => ∃ (kq : Nat) (x28_5 : Bool), v28 = .bool x28_5 ∧ Aside0 (r9_GetInt.j2 kq l0 a1 x7_2 x8_2 x28_5 = some (r1, r2, r3)) ∧ Aside0 (kq ≤ k2) ∧ Drawn0 w wc)
      case first =>
       have H := HC6.out
       clear HC6
       by_cases c7 : x8_2 < 10
       ·rw [if_pos c7] at H
        have c7b0 : decide (x8_2 < 10) = true := decide_eq_true c7
        clear c7
        (first | rw [c7b0] | (simp only [i64_w, i32_w]; rw [c7b0]) | skip)
        have H' := Ak H
        clear H
        go_wp2
        go_meet
        case rel => exact ⟨_, (decide ((wrap64 (a1 + x8_2)) < (l0.length : Int))), Z11, H', ⟨by have := HJ2.out; have := HK2.out; first | omega | exact Nat.le_refl _⟩, Z18⟩
       ·rw [if_neg c7] at H
        have c7b0 : decide (x8_2 < 10) = false := decide_eq_false c7
        clear c7
        (first | rw [c7b0] | (simp only [i64_w, i32_w]; rw [c7b0]) | skip)
        have H' := Ak H
        clear H
        go_wp2
        go_meet
        case rel => exact ⟨_, (false), Z11, H', ⟨by have := HJ2.out; have := HK2.out; first | omega | exact Nat.le_refl _⟩, Z18⟩
      case rest =>
       clear HC6
       try clear c2
       try clear p2
       try clear c3
       try clear c4
       try clear c4b0
       try clear c5
       try clear p6
       try clear c7
       try clear c7b0
       try clear p2
       obtain ⟨kq, x28_5, rfl, HA, HJ5, ⟨mc5, rfl⟩⟩ := hcut
       cases kq with
       | zero => exact absurd HA.out (by simp [r9_GetInt.j2])
       | succ kj5 =>
        have H := HA.out
        clear HA
        simp only [r9_GetInt.j2] at H
        by_cases c8 : x28_5 = true
        ·subst c8
         have H1 : (if 0 ≤ (wrap64 (a1 + x8_2)) then (if (wrap64 (a1 + x8_2)) < (l0.length : Int) then (if x8_2 = 9 then (r9_GetInt.j3 kj5 l0 a1 x7_2 x8_2 (IntKind.u64.wrap (rd l0 (wrap64 (a1 + x8_2)))) (decide ((IntKind.u64.wrap (rd l0 (wrap64 (a1 + x8_2)))) > 1))) else (r9_GetInt.j3 kj5 l0 a1 x7_2 x8_2 (IntKind.u64.wrap (rd l0 (wrap64 (a1 + x8_2)))) false)) else (none)) else (none)) = some (r1, r2, r3) := by rw [if_pos rfl] at H; exact H
         clear H
         have H := H1
         clear H1
         obtain ⟨ji9, hji9⟩ : ∃ j_ : Int, (wrap64 (a1 + x8_2)) = j_ := ⟨_, rfl⟩
         replace H : (if 0 ≤ (ji9) then (if (ji9) < (l0.length : Int) then (if x8_2 = 9 then (r9_GetInt.j3 kj5 l0 a1 x7_2 x8_2 (IntKind.u64.wrap (rd l0 (ji9))) (decide ((IntKind.u64.wrap (rd l0 (ji9))) > 1))) else (r9_GetInt.j3 kj5 l0 a1 x7_2 x8_2 (IntKind.u64.wrap (rd l0 (ji9))) false)) else (none)) else (none)) = some (r1, r2, r3) := by first | (rw [hji9] at H; exact H) | (simp only [hji9] at H ⊢; exact H)
         have hji9w : (IntKind.i64.wrap (a1 + x8_2)) = ji9 := (i64_w _).trans hji9
         by_cases c10 : 0 ≤ (ji9)
         ·rw [if_pos c10] at H
          have c10b0 : decide (0 ≤ (ji9)) = true := decide_eq_true c10
          clear c10
          by_cases c11 : (ji9) < (l0.length : Int)
          ·rw [if_pos c11] at H
           have c11b0 : decide ((ji9) < (l0.length : Int)) = true := decide_eq_true c11
           clear c11
           have HC12 := Ak H
           clear H
           have p231 : 0 ≤ ((ji9) : Int) := of_decide_eq_true Z20
           have q231 : (ji9) < (l0.length : Int) := of_decide_eq_true Z20
           obtain ⟨ad231, e231, hx231_0⟩ := Kd.at_int HR0.out (ji9) p231 q231
           cases e231
           replace p231 := eq_true p231
           replace q231 := eq_true q231
           go_upto_region 8 with (fail)
           go_cut [43] (fun v43 wc => ∃ (kq : Nat) (x43_11 : Bool), v43 = .bool x43_11 ∧ Aside0 (r9_GetInt.j3 kq l0 a1 x7_2 x8_2 (IntKind.u64.wrap (rd l0 (ji9))) x43_11 = some (r1, r2, r3)) ∧ Aside0 (kq ≤ kj5) ∧ Drawn0 w wc)
           case first =>
            have H := HC12.out
            clear HC12
            by_cases c13 : x8_2 = 9
            ·rw [if_pos c13] at H
             have c13b0 : (x8_2 == 9) = true := beq_iff_eq.mpr c13
             have c13b1 : (x8_2 != 9) = false := bne_eq_false_iff_eq.mpr c13
             clear c13
             (first | rw [c13b0] | (simp only [i64_w, i32_w]; rw [c13b0]) | skip)
             have H' := Ak H
             clear H
             go_wp2
             go_meet
             case rel => exact ⟨_, (decide ((IntKind.u64.wrap (rd l0 (ji9))) > 1)), (by first | rfl | (simp; done) | (simp only [← hji9] <;> (first | rfl | simp)) | (simp [*]; done)), H', ⟨by have := HJ2.out; have := HK2.out; have := HJ5.out; first | omega | exact Nat.le_refl _⟩, Z18⟩
            ·rw [if_neg c13] at H
             have c13b0 : (x8_2 == 9) = false := beq_eq_false_iff_ne.mpr c13
             have c13b1 : (x8_2 != 9) = true := bne_iff_ne.mpr c13
             (first | rw [c13b0] | (simp only [i64_w, i32_w]; rw [c13b0]) | skip)
             have H' := Ak H
             clear H
             go_wp2
             go_meet
             case rel => exact ⟨_, (false), Z11, H', ⟨by have := HJ2.out; have := HK2.out; have := HJ5.out; first | omega | exact Nat.le_refl _⟩, Z18⟩
           case rest =>
            clear HC12
            try clear c1
            try clear c2
            try clear p2
            try clear q2
            try clear hx2
            try clear c3
            try clear c4
            try clear c4b0
            try clear c5
            try clear p6
            try clear c7
            try clear c7b0
            try clear c8
            try clear c10
            try clear c10b0
            try clear c11
            try clear c11b0
            try clear c13
            try clear c13b0
            try clear c13b1
            try clear hx231_0
            try clear p2
            try clear p231
            try clear p6
            try clear q231
            obtain ⟨kq, x43_11, rfl, HA, HJ11, ⟨mc11, rfl⟩⟩ := hcut
            cases kq with
            | zero => exact absurd HA.out (by simp [r9_GetInt.j3])
            | succ kj11 =>
             have H := HA.out
             clear HA
             simp only [r9_GetInt.j3] at H
             by_cases c14 : x43_11 = true
             ·subst c14
              have H1 : (some (0, 0, 13)) = some (r1, r2, r3) := by rw [if_pos rfl] at H; exact H
              clear H
              have H := H1
              clear H1
              simp only [Option.some.injEq, Prod.mk.injEq] at H
              obtain ⟨rfl, rfl, rfl⟩ := H
              go_wp2
              go_ret3
              exact ⟨by first | rfl | (simp; done) | (simp only [← hji9] <;> (first | rfl | simp)) | (simp [*]; done), Z18⟩
             ·replace c14 := Bool.eq_false_iff.mpr c14
              subst c14
              have H1 : (if 0 ≤ (wrap64 (7 * x8_2)) then (if (IntKind.u64.wrap (rd l0 (ji9))) > 127 then (r9_GetInt.l0 kj11 l0 a1 (Go.bits .or .u64 x7_2 (shl .u64 (Int.tmod (IntKind.u64.wrap (rd l0 (ji9))) 128) (wrap64 (7 * x8_2)))) (wrap64 (x8_2 + 1))) else (if (IntKind.u64.wrap (rd l0 (ji9))) = 0 then (r9_GetInt.j4 kj11 a1 (Go.bits .or .u64 x7_2 (shl .u64 (Int.tmod (IntKind.u64.wrap (rd l0 (ji9))) 128) (wrap64 (7 * x8_2)))) x8_2 (decide (x8_2 > 0))) else (r9_GetInt.j4 kj11 a1 (Go.bits .or .u64 x7_2 (shl .u64 (Int.tmod (IntKind.u64.wrap (rd l0 (ji9))) 128) (wrap64 (7 * x8_2)))) x8_2 false))) else (none)) = some (r1, r2, r3) := by rw [if_neg (show ¬ (false = true) by decide)] at H; exact H
              clear H
              have H := H1
              clear H1
              obtain ⟨ji15, hji15⟩ : ∃ j_ : Int, (wrap64 (7 * x8_2)) = j_ := ⟨_, rfl⟩
              replace H : (if 0 ≤ (ji15) then (if (IntKind.u64.wrap (rd l0 (ji9))) > 127 then (r9_GetInt.l0 kj11 l0 a1 (Go.bits .or .u64 x7_2 (shl .u64 (Int.tmod (IntKind.u64.wrap (rd l0 (ji9))) 128) (ji15))) (wrap64 (x8_2 + 1))) else (if (IntKind.u64.wrap (rd l0 (ji9))) = 0 then (r9_GetInt.j4 kj11 a1 (Go.bits .or .u64 x7_2 (shl .u64 (Int.tmod (IntKind.u64.wrap (rd l0 (ji9))) 128) (ji15))) x8_2 (decide (x8_2 > 0))) else (r9_GetInt.j4 kj11 a1 (Go.bits .or .u64 x7_2 (shl .u64 (Int.tmod (IntKind.u64.wrap (rd l0 (ji9))) 128) (ji15))) x8_2 false))) else (none)) = some (r1, r2, r3) := by first | (rw [hji15] at H; exact H) | (simp only [hji15] at H ⊢; exact H)
              have hji15w : (IntKind.i64.wrap (7 * x8_2)) = ji15 := (i64_w _).trans hji15
              by_cases c16 : 0 ≤ (ji15)
              ·rw [if_pos c16] at H
               have c16b0 := eq_true c16
               have c16b1 : decide (0 ≤ (ji15)) = true := decide_eq_true c16
               clear c16
               obtain ⟨ji17, hji17⟩ : ∃ j_ : Int, (shl .u64 (Int.tmod (IntKind.u64.wrap (rd l0 (ji9))) 128) (ji15)) = j_ := ⟨_, rfl⟩
               replace H : (if (IntKind.u64.wrap (rd l0 (ji9))) > 127 then (r9_GetInt.l0 kj11 l0 a1 (Go.bits .or .u64 x7_2 (ji17)) (wrap64 (x8_2 + 1))) else (if (IntKind.u64.wrap (rd l0 (ji9))) = 0 then (r9_GetInt.j4 kj11 a1 (Go.bits .or .u64 x7_2 (ji17)) x8_2 (decide (x8_2 > 0))) else (r9_GetInt.j4 kj11 a1 (Go.bits .or .u64 x7_2 (ji17)) x8_2 false))) = some (r1, r2, r3) := by first | (rw [hji17] at H; exact H) | (simp only [hji17] at H ⊢; exact H)
               have hji17_ : (IntKind.u64.wrap ((Int.tmod (IntKind.u64.wrap (rd l0 (ji9))) 128) * 2 ^ min (ji15).toNat 64)) = ji17 := hji17
               have hji17z : (ji15) ≤ 64 → (IntKind.u64.wrap ((Int.tmod (IntKind.u64.wrap (rd l0 (ji9))) 128) * 2 ^ (ji15).toNat)) = ji17 := shl_small hji17
               by_cases c18 : (IntKind.u64.wrap (rd l0 (ji9))) > 127
               ·rw [if_pos c18] at H
                have c18b0 : decide (127 < (IntKind.u64.wrap (rd l0 (ji9)))) = true := decide_eq_true c18
                clear c18
                have H' := Ak H
                clear H
                go_wp2
                go_roundg kj11
                case measure => have := HJ2.out; have := HK2.out; have := HJ5.out; have := HJ11.out; omega
                case rel => exact ⟨(Go.bits .or .u64 x7_2 (ji17)), (wrap64 (x8_2 + 1)), (by first | rfl | (simp; done) | (simp only [← hji17] <;> (first | rfl | simp)) | (simp [*]; done)), Z11, H', ⟨by have := HJ2.out; have := HK2.out; have := HJ5.out; have := HJ11.out; omega⟩, Z18⟩
               ·rw [if_neg c18] at H
                have c18b0 : decide (127 < (IntKind.u64.wrap (rd l0 (ji9)))) = false := decide_eq_false c18
                clear c18
                have HC19 := Ak H
                clear H
                go_upto_region 12 with (fail)
                go_cut [58] (fun v58 wc => ∃ (kq : Nat) (x58_18 : Bool), v58 = .bool x58_18 ∧ Aside0 (r9_GetInt.j4 kq a1 (Go.bits .or .u64 x7_2 (ji17)) x8_2 x58_18 = some (r1, r2, r3)) ∧ Aside0 (kq ≤ kj11) ∧ Drawn0 w wc)
                case first =>
                 have H := HC19.out
                 clear HC19
                 by_cases c20 : (IntKind.u64.wrap (rd l0 (ji9))) = 0
                 ·rw [if_pos c20] at H
                  have c20b0 : ((IntKind.u64.wrap (rd l0 (ji9))) == 0) = true := beq_iff_eq.mpr c20
                  have c20b1 : ((IntKind.u64.wrap (rd l0 (ji9))) != 0) = false := bne_eq_false_iff_eq.mpr c20
                  clear c20
                  (first | rw [c20b0] | (simp only [i64_w, i32_w]; rw [c20b0]) | skip)
                  have H' := Ak H
                  clear H
                  go_wp2
                  go_meet
                  case rel => exact ⟨_, (decide (x8_2 > 0)), Z11, H', ⟨by have := HJ2.out; have := HK2.out; have := HJ5.out; have := HJ11.out; first | omega | exact Nat.le_refl _⟩, Z18⟩
                 ·rw [if_neg c20] at H
                  have c20b0 : ((IntKind.u64.wrap (rd l0 (ji9))) == 0) = false := beq_eq_false_iff_ne.mpr c20
                  have c20b1 : ((IntKind.u64.wrap (rd l0 (ji9))) != 0) = true := bne_iff_ne.mpr c20
                  (first | rw [c20b0] | (simp only [i64_w, i32_w]; rw [c20b0]) | skip)
                  have H' := Ak H
                  clear H
                  go_wp2
                  go_meet
                  case rel => exact ⟨_, (false), Z11, H', ⟨by have := HJ2.out; have := HK2.out; have := HJ5.out; have := HJ11.out; first | omega | exact Nat.le_refl _⟩, Z18⟩
                case rest =>
                 clear HC19
                 try clear c1
                 try clear c2
                 try clear p2
                 try clear q2
                 try clear hx2
                 try clear c3
                 try clear c4
                 try clear c4b0
                 try clear c5
                 try clear p6
                 try clear c7
                 try clear c7b0
                 try clear c8
                 try clear c10
                 try clear c10b0
                 try clear c11
                 try clear c11b0
                 try clear c13
                 try clear c13b0
                 try clear c13b1
                 try clear c14
                 try clear c16
                 try clear c16b0
                 try clear c16b1
                 try clear c18
                 try clear c18b0
                 try clear c20
                 try clear c20b0
                 try clear c20b1
                 try clear hx231_0
                 try clear p2
                 try clear p231
                 try clear p6
                 try clear q2
                 try clear q231
                 obtain ⟨kq, x58_18, rfl, HA, HJ18, ⟨mc18, rfl⟩⟩ := hcut
                 cases kq with
                 | zero => exact absurd HA.out (by simp [r9_GetInt.j4])
                 | succ kj18 =>
                  have H := HA.out
                  clear HA
                  simp only [r9_GetInt.j4] at H
                  by_cases c21 : x58_18 = true
                  ·subst c21
                   have H1 : (some (0, 0, 13)) = some (r1, r2, r3) := by rw [if_pos rfl] at H; exact H
                   clear H
                   have H := H1
                   clear H1
                   simp only [Option.some.injEq, Prod.mk.injEq] at H
                   obtain ⟨rfl, rfl, rfl⟩ := H
                   go_wp2
                   go_ret3
                   exact ⟨Z112, Z18⟩
                  ·replace c21 := Bool.eq_false_iff.mpr c21
                   subst c21
                   have H1 : (if (Int.tmod (Go.bits .or .u64 x7_2 (ji17)) 2) = 1 then (some (wrap64 ((wrap64 (-(wrap64 (IntKind.u64.wrap (Int.tdiv (Go.bits .or .u64 x7_2 (ji17)) 2))))) - 1), wrap64 ((wrap64 (a1 + x8_2)) + 1), 0)) else (some (wrap64 (IntKind.u64.wrap (Int.tdiv (Go.bits .or .u64 x7_2 (ji17)) 2)), wrap64 ((wrap64 (a1 + x8_2)) + 1), 0))) = some (r1, r2, r3) := by rw [if_neg (show ¬ (false = true) by decide)] at H; exact H
                   clear H
                   have H := H1
                   clear H1
                   by_cases c22 : (Int.tmod (Go.bits .or .u64 x7_2 (ji17)) 2) = 1
                   ·rw [if_pos c22] at H
                    have c22b0 : ((Int.tmod (Go.bits .or .u64 x7_2 (ji17)) 2) == 1) = true := beq_iff_eq.mpr c22
                    have c22b1 : ((Int.tmod (Go.bits .or .u64 x7_2 (ji17)) 2) != 1) = false := bne_eq_false_iff_eq.mpr c22
                    clear c22
                    simp only [Option.some.injEq, Prod.mk.injEq] at H
                    obtain ⟨rfl, rfl, rfl⟩ := H
                    go_wp2
                    go_ret3
                    exact ⟨Z112, Z18⟩
                   ·rw [if_neg c22] at H
                    have c22b0 : ((Int.tmod (Go.bits .or .u64 x7_2 (ji17)) 2) == 1) = false := beq_eq_false_iff_ne.mpr c22
                    have c22b1 : ((Int.tmod (Go.bits .or .u64 x7_2 (ji17)) 2) != 1) = true := bne_iff_ne.mpr c22
                    simp only [Option.some.injEq, Prod.mk.injEq] at H
                    obtain ⟨rfl, rfl, rfl⟩ := H
                    go_wp2
                    go_ret3
                    exact ⟨Z112, Z18⟩
              ·rw [if_neg c16] at H
               exact absurd H (by simp)
          ·rw [if_neg c11] at H
           exact absurd H (by simp)
         ·rw [if_neg c10] at H
          exact absurd H (by simp)
        ·replace c8 := Bool.eq_false_iff.mpr c8
         subst c8
         have H1 : (some (0, 0, 13)) = some (r1, r2, r3) := by rw [if_neg (show ¬ (false = true) by decide)] at H; exact H
         clear H
         have H := H1
         clear H1
         simp only [Option.some.injEq, Prod.mk.injEq] at H
         obtain ⟨rfl, rfl, rfl⟩ := H
         go_wp2
         go_ret3
         exact ⟨Z11, Z18⟩
def r9_Count.f (k : Nat) (l0 : List Int) (a1 : Int) : Option (Int × Int × Int) := (r9_GetInt.f k l0 a1).bind fun bt232 => (if bt232.2.2 = 0 then (if bt232.1 < 0 then (some (0, 0, 13)) else (if bt232.1 > (wrap64 ((l0.length : Int) - bt232.2.1)) then (some (0, 0, 13)) else (some (bt232.1, bt232.2.1, 0)))) else (some (0, 0, 13)))
set_option maxHeartbeats 8000000 in
set_option maxRecDepth 100000 in
theorem r9_Count.calls (k : Nat) (A0 : Option Addr) (c0 : Nat) (l0 : List Int) (a1 : Int) (r1 : Int) (r2 : Int) (r3 : Int) (w : World) (hr0 : Kd.C (Kd.int .u8) w A0 l0.length l0) (hc0 : l0.length ≤ c0) (h : r9_Count.f k l0 a1 = some (r1, r2, r3)) :
  Calls Tryz.prog 36 #[.slice A0 l0.length c0, .int .i64 a1] w fun e w' => e = .returned (.tuple #[.int .i64 r1, .int .i64 r2, .int .i64 r3]) ∧ Drawn0 w w' := by
 have HR0 := Ak hr0
 have HC0 := Ak hc0
 clear hr0 hc0
 have H : ((r9_GetInt.f k l0 a1).bind fun bt232 => (if bt232.2.2 = 0 then (if bt232.1 < 0 then (some (0, 0, 13)) else (if bt232.1 > (wrap64 ((l0.length : Int) - bt232.2.1)) then (some (0, 0, 13)) else (some (bt232.1, bt232.2.1, 0)))) else (some (0, 0, 13)))) = some (r1, r2, r3) := h
 clear h
 replace H := Option.bind_eq_some_iff.mp H
 obtain ⟨⟨t232, t233, t234⟩, A30, H⟩ := H
 replace H : (if t234 = 0 then (if t232 < 0 then (some (0, 0, 13)) else (if t232 > (wrap64 ((l0.length : Int) - t233)) then (some (0, 0, 13)) else (some (t232, t233, 0)))) else (some (0, 0, 13))) = some (r1, r2, r3) := H
 have A3 := Ak A30
 clear A30
 by_cases c4 : t234 = 0
 ·rw [if_pos c4] at H
  have c4b0 : (t234 == 0) = true := beq_iff_eq.mpr c4
  have c4b1 : (t234 != 0) = false := bne_eq_false_iff_eq.mpr c4
  clear c4
  by_cases c5 : t232 < 0
  ·rw [if_pos c5] at H
   have c5b0 : decide (t232 < 0) = true := decide_eq_true c5
   clear c5
   simp only [Option.some.injEq, Prod.mk.injEq] at H
   obtain ⟨rfl, rfl, rfl⟩ := H
   go_enter Tryz.func36, Tryz.ntmps36
   go_wp2_with (first | ((with_reducible refine gate_callee (f := 37) rfl ?_); refine goesL_ (some 13) rfl rfl Tryz.func37 Z76 rfl #[.slice A0 l0.length c0, .int .i64 a1] rfl Z4 ?_; (with_reducible refine (r9_GetInt.calls k _ _ l0 a1 t232 t233 t234 _ ?side1 ?side2 A3.out).mono ?_); (case side1 => exact Z17); (case side2 => exact Z77); rintro e w' ⟨rfl, ⟨nd, rfl⟩⟩; refine ⟨_, rfl, ?_⟩))
   go_ret3
   exact ⟨Z11, Z18⟩
  ·rw [if_neg c5] at H
   have c5b0 : decide (t232 < 0) = false := decide_eq_false c5
   clear c5
   by_cases c6 : t232 > (wrap64 ((l0.length : Int) - t233))
   ·rw [if_pos c6] at H
    have c6b0 : decide ((wrap64 ((l0.length : Int) - t233)) < t232) = true := decide_eq_true c6
    clear c6
    simp only [Option.some.injEq, Prod.mk.injEq] at H
    obtain ⟨rfl, rfl, rfl⟩ := H
    go_enter Tryz.func36, Tryz.ntmps36
    go_wp2_with (first | ((with_reducible refine gate_callee (f := 37) rfl ?_); refine goesL_ (some 13) rfl rfl Tryz.func37 Z76 rfl #[.slice A0 l0.length c0, .int .i64 a1] rfl Z4 ?_; (with_reducible refine (r9_GetInt.calls k _ _ l0 a1 t232 t233 t234 _ ?side1 ?side2 A3.out).mono ?_); (case side1 => exact Z17); (case side2 => exact Z77); rintro e w' ⟨rfl, ⟨nd, rfl⟩⟩; refine ⟨_, rfl, ?_⟩))
    go_ret3
    exact ⟨Z11, Z18⟩
   ·rw [if_neg c6] at H
    have c6b0 : decide ((wrap64 ((l0.length : Int) - t233)) < t232) = false := decide_eq_false c6
    clear c6
    simp only [Option.some.injEq, Prod.mk.injEq] at H
    obtain ⟨rfl, rfl, rfl⟩ := H
    go_enter Tryz.func36, Tryz.ntmps36
    go_wp2_with (first | ((with_reducible refine gate_callee (f := 37) rfl ?_); refine goesL_ (some 13) rfl rfl Tryz.func37 Z76 rfl #[.slice A0 l0.length c0, .int .i64 a1] rfl Z4 ?_; (with_reducible refine (r9_GetInt.calls k _ _ l0 a1 t232 t233 t234 _ ?side1 ?side2 A3.out).mono ?_); (case side1 => exact Z17); (case side2 => exact Z77); rintro e w' ⟨rfl, ⟨nd, rfl⟩⟩; refine ⟨_, rfl, ?_⟩))
    go_ret3
    exact ⟨Z11, Z18⟩
 ·rw [if_neg c4] at H
  have c4b0 : (t234 == 0) = false := beq_eq_false_iff_ne.mpr c4
  have c4b1 : (t234 != 0) = true := bne_iff_ne.mpr c4
  simp only [Option.some.injEq, Prod.mk.injEq] at H
  obtain ⟨rfl, rfl, rfl⟩ := H
  go_enter Tryz.func36, Tryz.ntmps36
  go_wp2_with (first | ((with_reducible refine gate_callee (f := 37) rfl ?_); refine goesL_ (some 13) rfl rfl Tryz.func37 Z76 rfl #[.slice A0 l0.length c0, .int .i64 a1] rfl Z4 ?_; (with_reducible refine (r9_GetInt.calls k _ _ l0 a1 t232 t233 t234 _ ?side1 ?side2 A3.out).mono ?_); (case side1 => exact Z17); (case side2 => exact Z77); rintro e w' ⟨rfl, ⟨nd, rfl⟩⟩; refine ⟨_, rfl, ?_⟩))
  go_ret3
  exact ⟨Z11, Z18⟩
def r9_GetInts.l0 : Nat → List Int → Int → Int → Int → List Int → Int → Option (List Int × Int × Int)
 | 0, _, _, _, _, _, _ => none
 | k + 1, x0, x7, x8, x9, x10, x11 => if x11 < x7 then (if x9 = 0 then ((r9_GetInt.f k x0 x8).bind fun bt238 => (if x10.length < 17592186044416 then (r9_GetInts.l0 k x0 x7 bt238.2.1 bt238.2.2 (x10 ++ [bt238.1]) (wrap64 (x11 + 1))) else (none))) else (some (x10, x8, x9))) else (some (x10, x8, x9))
def r9_GetInts.f (k : Nat) (l0 : List Int) (a1 : Int) : Option (List Int × Int × Int) := (r9_Count.f k l0 a1).bind fun bt235 => (r9_GetInts.l0 k l0 bt235.1 bt235.2.1 bt235.2.2 ([] : List Int) 0)
set_option maxHeartbeats 8000000 in
set_option maxRecDepth 100000 in
theorem r9_GetInts.calls (k : Nat) (A0 : Option Addr) (c0 : Nat) (l0 : List Int) (a1 : Int) (r1 : List Int) (r2 : Int) (r3 : Int) (w : World) (hr0 : Kd.C (Kd.int .u8) w A0 l0.length l0) (hc0 : l0.length ≤ c0) (h : r9_GetInts.f k l0 a1 = some (r1, r2, r3)) :
  Calls Tryz.prog 14 #[.slice A0 l0.length c0, .int .i64 a1] w fun e w' => ∃ v0_ : Value, e = .returned (.tuple #[v0_, .int .i64 r2, .int .i64 r3]) ∧ Kd.R (Kd.int .i64) 3 w' w.heap.size (fun _ => True) v0_ r1 ∧ Below w.heap.size w w' := by
 have HR0 := Ak hr0
 have HC0 := Ak hc0
 clear hr0 hc0
 have HB := Ak (Below.refl w.heap.size w)
 have H : ((r9_Count.f k l0 a1).bind fun bt235 => (r9_GetInts.l0 k l0 bt235.1 bt235.2.1 bt235.2.2 ([] : List Int) 0)) = some (r1, r2, r3) := h
 clear h
 replace H := Option.bind_eq_some_iff.mp H
 obtain ⟨⟨t235, t236, t237⟩, A30, H⟩ := H
 replace H : (r9_GetInts.l0 k l0 t235 t236 t237 ([] : List Int) 0) = some (r1, r2, r3) := H
 have A3 := Ak A30
 clear A30
 have H' := Ak H
 clear H
 go_enter Tryz.func14, Tryz.ntmps14
 go_wp2_with (first | ((with_reducible refine gate_callee (f := 36) rfl ?_); refine goesL_ (some 16) rfl rfl Tryz.func36 Z76 rfl #[.slice A0 l0.length c0, .int .i64 a1] rfl Z4 ?_; (with_reducible refine (r9_Count.calls k _ _ l0 a1 t235 t236 t237 _ ?side1 ?side2 A3.out).mono ?_); (case side1 => exact Z17); (case side2 => exact Z77); rintro e w' ⟨rfl, ⟨nd, rfl⟩⟩; refine ⟨_, rfl, ?_⟩))
 go_loopg [8, 9, 10, 11] k (fun kq v8 v9 v10 v11 w' => ∃ (x8_1 : Int) (x9_1 : Int) (x10_1 : List Int) (x11_1 : Int), v8 = .int .i64 x8_1 ∧ v9 = .int .i64 x9_1 ∧ v11 = .int .i64 x11_1 ∧ Aside0 (r9_GetInts.l0 kq l0 t235 x8_1 x9_1 x10_1 x11_1 = some (r1, r2, r3)) ∧ Aside0 (kq ≤ k) ∧ Aside0 (Kd.R (Kd.int .i64) 3 w' w.heap.size (fun _ => True) v10 x10_1) ∧ Aside0 (Below w.heap.size w w'))
 case atStart => exact ⟨(t236), (t237), (([] : List Int)), (0), Z11, Z11, Z11, H', ⟨Nat.le_refl _⟩, ⟨Z8⟩, ⟨Z1⟩⟩
 case round =>
  clear H'
  try clear c1
  try clear p2
  try clear c3
  obtain ⟨x8_1, x9_1, x10_1, x11_1, rfl, rfl, rfl, HA, HK1, HO_10, HB⟩ := hrel
  cases gk with
  | zero => exact absurd HA.out (by simp [r9_GetInts.l0])
  | succ k1 =>
   have H := HA.out
   clear HA
   simp only [r9_GetInts.l0] at H
   by_cases c4 : x11_1 < t235
   ·rw [if_pos c4] at H
    have c4b0 : decide (x11_1 < t235) = true := decide_eq_true c4
    clear c4
    by_cases c5 : x9_1 = 0
    ·rw [if_pos c5] at H
     have c5b0 : (x9_1 == 0) = true := beq_iff_eq.mpr c5
     have c5b1 : (x9_1 != 0) = false := bne_eq_false_iff_eq.mpr c5
     clear c5
     replace H := Option.bind_eq_some_iff.mp H
     obtain ⟨⟨t238, t239, t240⟩, A60, H⟩ := H
     replace H : (if x10_1.length < 17592186044416 then (r9_GetInts.l0 k1 l0 t235 t239 t240 (x10_1 ++ [t238]) (wrap64 (x11_1 + 1))) else (none)) = some (r1, r2, r3) := H
     have A6 := Ak A60
     clear A60
     by_cases c7 : x10_1.length < 17592186044416
     ·rw [if_pos c7] at H
      have LMc7 := Ak c7
      clear c7
      obtain ⟨y241, hy241⟩ : ∃ y_ : List Int, y_ = (x10_1 ++ [t238]) := ⟨_, rfl⟩
      replace H : (r9_GetInts.l0 k1 l0 t235 t239 t240 y241 (wrap64 (x11_1 + 1))) = some (r1, r2, r3) := by first | (rw [hy241]; with_reducible exact H) | (have H2_ := (Option.bind_some _ _).symm.trans H; rw [hy241]; with_reducible exact H2_) | (have H2_ := (Option.bind_some _ _).symm.trans H; with_reducible exact H2_) | with_reducible exact H | (rw [hy241]; exact H) | exact H
      have Ny241 := Ak hy241
      clear hy241
      have H' := Ak H
      clear H
      go_wp2_with (first | ((with_reducible refine gate_callee (f := 37) rfl ?_); refine goesL_ (some 32) rfl rfl Tryz.func37 Z76 rfl #[.slice A0 l0.length c0, .int .i64 x8_1] rfl Z4 ?_; (with_reducible refine (r9_GetInt.calls k1 _ _ l0 x8_1 t238 t239 t240 _ ?side1 ?side2 A6.out).mono ?_); (case side1 => exact Z7); (case side2 => exact Z77); rintro e w' ⟨rfl, ⟨nd, rfl⟩⟩; refine ⟨_, rfl, ?_⟩) | ((with_reducible refine gate_builtin (b := .append) (xs := #[.tmp 36, .tmp 38]) rfl ?_); at_builtin; refine Kd.R_append (Kd.int .i64) (w0 := w) w.heap.size rfl (.tmp 36) (.tmp 38) 24 3 (.int .i64 0) 8 rfl Tryz.underlying24 info3 rfl (by decide) (by omega) u10 x10_1 t238 [.int .i64 t238] (fun _ => True) (fun _ => False) rfl rfl ?aP (fun _ hk => hk.elim) ?aF ?aO ?aB ?aS ?aL ?_; (case aP => exact rfl); (case aB => exact Z1); (case aF => exact (fun _ _ => trivial)); (case aO => exact Z113); (case aS => exact (below_size Z1)); (case aL => have := LMc7.out; omega); intro v242 w8 ho hb hg hat; rw [← Ny241.out] at ho; have n0_ := Ak (hb); have n1_ := Ak (ho); clear HB; clear HO_10; have HB := n0_; have HO243 := n1_; clear n0_ n1_; clear ho hb hg hat))
      go_roundg k1
      case measure => have := HK1.out; omega
      case rel => exact ⟨(t239), (t240), (y241), (wrap64 (x11_1 + 1)), Z11, Z11, Z11, H', ⟨by have := HK1.out; omega⟩, ⟨by (with_reducible repeat (first | apply Kd.R_alloc | apply Kd.R_drewN | apply Kd.R_drew)); exact HO243.out⟩, ⟨Z1⟩⟩
     ·rw [if_neg c7] at H
      exact absurd H (by simp)
    ·rw [if_neg c5] at H
     have c5b0 : (x9_1 == 0) = false := beq_eq_false_iff_ne.mpr c5
     have c5b1 : (x9_1 != 0) = true := bne_iff_ne.mpr c5
     simp only [Option.some.injEq, Prod.mk.injEq] at H
     obtain ⟨rfl, rfl, rfl⟩ := H
     go_wp2
     go_ret3
     exact ⟨_, Z6, Z113, Z1⟩
   ·rw [if_neg c4] at H
    have c4b0 : decide (x11_1 < t235) = false := decide_eq_false c4
    clear c4
    simp only [Option.some.injEq, Prod.mk.injEq] at H
    obtain ⟨rfl, rfl, rfl⟩ := H
    go_wp2
    go_ret3
    exact ⟨_, Z6, Z113, Z1⟩
def r9_GetText.f (k : Nat) (l0 : List Int) (a1 : Int) : Option (ByteArray × Int × Int) := (r9_GetInt.f k l0 a1).bind fun bt244 => (if bt244.2.2 = 0 then (if bt244.1 < 0 then (some ((⟨#[]⟩ : ByteArray), 0, 13)) else (if bt244.1 > (wrap64 ((l0.length : Int) - bt244.2.1)) then (some ((⟨#[]⟩ : ByteArray), 0, 13)) else (if 0 ≤ bt244.2.1 then (if bt244.2.1 ≤ (wrap64 (bt244.2.1 + bt244.1)) then (if (wrap64 (bt244.2.1 + bt244.1)) ≤ (l0.length : Int) then (some (strOfNums ((l0.take ((wrap64 (bt244.2.1 + bt244.1)) : Int).toNat).drop (bt244.2.1 : Int).toNat), wrap64 (bt244.2.1 + bt244.1), 0)) else (none)) else (none)) else (none)))) else (some ((⟨#[]⟩ : ByteArray), 0, 13)))
set_option maxHeartbeats 8000000 in
set_option maxRecDepth 100000 in
theorem r9_GetText.calls (k : Nat) (A0 : Option Addr) (c0 : Nat) (l0 : List Int) (a1 : Int) (r1 : ByteArray) (r2 : Int) (r3 : Int) (w : World) (hr0 : Kd.C (Kd.int .u8) w A0 l0.length l0) (hc0 : l0.length ≤ c0) (h : r9_GetText.f k l0 a1 = some (r1, r2, r3)) :
  Calls Tryz.prog 72 #[.slice A0 l0.length c0, .int .i64 a1] w fun e w' => e = .returned (.tuple #[.string r1, .int .i64 r2, .int .i64 r3]) ∧ Drawn0 w w' := by
 have HR0 := Ak hr0
 have HC0 := Ak hc0
 clear hr0 hc0
 have H : ((r9_GetInt.f k l0 a1).bind fun bt244 => (if bt244.2.2 = 0 then (if bt244.1 < 0 then (some ((⟨#[]⟩ : ByteArray), 0, 13)) else (if bt244.1 > (wrap64 ((l0.length : Int) - bt244.2.1)) then (some ((⟨#[]⟩ : ByteArray), 0, 13)) else (if 0 ≤ bt244.2.1 then (if bt244.2.1 ≤ (wrap64 (bt244.2.1 + bt244.1)) then (if (wrap64 (bt244.2.1 + bt244.1)) ≤ (l0.length : Int) then (some (strOfNums ((l0.take ((wrap64 (bt244.2.1 + bt244.1)) : Int).toNat).drop (bt244.2.1 : Int).toNat), wrap64 (bt244.2.1 + bt244.1), 0)) else (none)) else (none)) else (none)))) else (some ((⟨#[]⟩ : ByteArray), 0, 13)))) = some (r1, r2, r3) := h
 clear h
 replace H := Option.bind_eq_some_iff.mp H
 obtain ⟨⟨t244, t245, t246⟩, A30, H⟩ := H
 replace H : (if t246 = 0 then (if t244 < 0 then (some ((⟨#[]⟩ : ByteArray), 0, 13)) else (if t244 > (wrap64 ((l0.length : Int) - t245)) then (some ((⟨#[]⟩ : ByteArray), 0, 13)) else (if 0 ≤ t245 then (if t245 ≤ (wrap64 (t245 + t244)) then (if (wrap64 (t245 + t244)) ≤ (l0.length : Int) then (some (strOfNums ((l0.take ((wrap64 (t245 + t244)) : Int).toNat).drop (t245 : Int).toNat), wrap64 (t245 + t244), 0)) else (none)) else (none)) else (none)))) else (some ((⟨#[]⟩ : ByteArray), 0, 13))) = some (r1, r2, r3) := H
 have A3 := Ak A30
 clear A30
 by_cases c4 : t246 = 0
 ·rw [if_pos c4] at H
  have c4b0 : (t246 == 0) = true := beq_iff_eq.mpr c4
  have c4b1 : (t246 != 0) = false := bne_eq_false_iff_eq.mpr c4
  clear c4
  by_cases c5 : t244 < 0
  ·rw [if_pos c5] at H
   have c5b0 : decide (t244 < 0) = true := decide_eq_true c5
   clear c5
   simp only [Option.some.injEq, Prod.mk.injEq] at H
   obtain ⟨rfl, rfl, rfl⟩ := H
   go_enter Tryz.func72, Tryz.ntmps72
   go_wp2_with (first | ((with_reducible refine gate_callee (f := 37) rfl ?_); refine goesL_ (some 13) rfl rfl Tryz.func37 Z76 rfl #[.slice A0 l0.length c0, .int .i64 a1] rfl Z4 ?_; (with_reducible refine (r9_GetInt.calls k _ _ l0 a1 t244 t245 t246 _ ?side1 ?side2 A3.out).mono ?_); (case side1 => exact Z17); (case side2 => exact Z77); rintro e w' ⟨rfl, ⟨nd, rfl⟩⟩; refine ⟨_, rfl, ?_⟩))
   go_ret3
   exact ⟨Z11, Z18⟩
  ·rw [if_neg c5] at H
   have c5b0 : decide (t244 < 0) = false := decide_eq_false c5
   clear c5
   by_cases c6 : t244 > (wrap64 ((l0.length : Int) - t245))
   ·rw [if_pos c6] at H
    have c6b0 : decide ((wrap64 ((l0.length : Int) - t245)) < t244) = true := decide_eq_true c6
    clear c6
    simp only [Option.some.injEq, Prod.mk.injEq] at H
    obtain ⟨rfl, rfl, rfl⟩ := H
    go_enter Tryz.func72, Tryz.ntmps72
    go_wp2_with (first | ((with_reducible refine gate_callee (f := 37) rfl ?_); refine goesL_ (some 13) rfl rfl Tryz.func37 Z76 rfl #[.slice A0 l0.length c0, .int .i64 a1] rfl Z4 ?_; (with_reducible refine (r9_GetInt.calls k _ _ l0 a1 t244 t245 t246 _ ?side1 ?side2 A3.out).mono ?_); (case side1 => exact Z17); (case side2 => exact Z77); rintro e w' ⟨rfl, ⟨nd, rfl⟩⟩; refine ⟨_, rfl, ?_⟩))
    go_ret3
    exact ⟨Z11, Z18⟩
   ·rw [if_neg c6] at H
    have c6b0 : decide ((wrap64 ((l0.length : Int) - t245)) < t244) = false := decide_eq_false c6
    clear c6
    by_cases c7 : 0 ≤ t245
    ·rw [if_pos c7] at H
     have c7b0 := eq_true c7
     have c7b1 : decide (0 ≤ t245) = true := decide_eq_true c7
     clear c7
     by_cases c8 : t245 ≤ (wrap64 (t245 + t244))
     ·rw [if_pos c8] at H
      have c8b0 := eq_true c8
      have c8b1 : decide (t245 ≤ (wrap64 (t245 + t244))) = true := decide_eq_true c8
      by_cases c9 : (wrap64 (t245 + t244)) ≤ (l0.length : Int)
      ·rw [if_pos c9] at H
       have c9b0 := eq_true c9
       have c9b1 : decide ((wrap64 (t245 + t244)) ≤ (l0.length : Int)) = true := decide_eq_true c9
       simp only [Option.some.injEq, Prod.mk.injEq] at H
       obtain ⟨rfl, rfl, rfl⟩ := H
       go_enter Tryz.func72, Tryz.ntmps72
       go_wp2_with (first | ((with_reducible refine gate_callee (f := 37) rfl ?_); refine goesL_ (some 13) rfl rfl Tryz.func37 Z76 rfl #[.slice A0 l0.length c0, .int .i64 a1] rfl Z4 ?_; (with_reducible refine (r9_GetInt.calls k _ _ l0 a1 t244 t245 t246 _ ?side1 ?side2 A3.out).mono ?_); (case side1 => exact Z17); (case side2 => exact Z77); rintro e w' ⟨rfl, ⟨nd, rfl⟩⟩; refine ⟨_, rfl, ?_⟩; obtain ⟨i010, hi010, _, hsz10, _⟩ := info_parts info5; obtain ⟨A10, hcut10, hA10, hC10⟩ := print_mid_of (P := Tryz.prog) (Value.int .u8) 0 22 5 .i64 .i64 Tryz.underlying22 hi010 hsz10 A0 c0 l0 t245 (wrap64 (t245 + t244)) (of_decide_eq_true Z20) (by first | omega | exact of_decide_eq_true Z20) (of_decide_eq_true Z20) HC0.out; have HR247 := Ak (Kd.C_of_reads (h1 := fun _ => rfl) (hA10 _ (Kd.reads_of_C HR0.out))); have HC247 := Ak hC10; clear hA10 hC10 hi010 hsz10; obtain ⟨L10, hL10⟩ : ∃ L : Nat, L = ((l0.take ((wrap64 (t245 + t244)) : Int).toNat).drop (t245 : Int).toNat).length := ⟨_, rfl⟩; have hcut_ : ∀ W : World, (Instr.slice 22 (.slice A0 l0.length c0) (some (.int .i64 t245)) (some (.int .i64 (wrap64 (t245 + t244)))) none).run Tryz.prog W = .ok (.slice A10 L10 (c0 - t245.toNat)) W := fun W => by { rw [hL10]; exact hcut10 W }; have hcv_ : ∀ n : Nat, (convert 22 9 (.slice A10 L10 (c0 - t245.toNat))).run Tryz.prog (w.drewN n) = .ok (.string (strOfNums ((l0.take ((wrap64 (t245 + t244)) : Int).toNat).drop (t245 : Int).toNat))) (w.drewN n) := fun n => by { rw [hL10]; exact Kd.C_string Tryz.underlying22 Tryz.underlying5 Tryz.underlying9 (Kd.C_drewN HR247.out n) }; clear hcut10 hL10))
       go_ret3
       exact ⟨Z11, Z18⟩
      ·rw [if_neg c9] at H
       exact absurd H (by simp)
     ·rw [if_neg c8] at H
      exact absurd H (by simp)
    ·rw [if_neg c7] at H
     exact absurd H (by simp)
 ·rw [if_neg c4] at H
  have c4b0 : (t246 == 0) = false := beq_eq_false_iff_ne.mpr c4
  have c4b1 : (t246 != 0) = true := bne_iff_ne.mpr c4
  simp only [Option.some.injEq, Prod.mk.injEq] at H
  obtain ⟨rfl, rfl, rfl⟩ := H
  go_enter Tryz.func72, Tryz.ntmps72
  go_wp2_with (first | ((with_reducible refine gate_callee (f := 37) rfl ?_); refine goesL_ (some 13) rfl rfl Tryz.func37 Z76 rfl #[.slice A0 l0.length c0, .int .i64 a1] rfl Z4 ?_; (with_reducible refine (r9_GetInt.calls k _ _ l0 a1 t244 t245 t246 _ ?side1 ?side2 A3.out).mono ?_); (case side1 => exact Z17); (case side2 => exact Z77); rintro e w' ⟨rfl, ⟨nd, rfl⟩⟩; refine ⟨_, rfl, ?_⟩))
  go_ret3
  exact ⟨Z11, Z18⟩
end Go.Proofs.YtmmjnbpoilicjaaGreat.Q
