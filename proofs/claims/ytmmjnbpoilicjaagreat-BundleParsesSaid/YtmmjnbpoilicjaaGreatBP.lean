/- Contracts of the comparisons of registers. -/
import Derived.Test.YtmmjnbpoilicjaaGreatBQa
import Derived.Test.YtmmjnbpoilicjaaGreatProg
import Derived.Below
import Derived.Deep.Draws
import Derived.Deep.AppendLies
import Derived.Maps.AppendAt
import Derived.OwnWalk
import Derived.Laws.BytesArg
import Derived.Laws.MakeOwn
import Derived.Laws.OwnMore
import Derived.Deep.OwnRows
import Derived.Tactics
import Derived.Lib.ConvBytes
import Derived.Laws.Slices
import Derived.WalkKit
import Derived.KernelRfl
import Derived.RowKit3
import Derived.Deep.LoopGhost
import Derived.Deep.QuietTactic
import Derived.BigQuiet
import Derived.WideLaws
import Derived.Deep.DeepCutAuto
import Derived.Deep.CutBlock
import Derived.Deep.RegionHeld3
import Derived.Laws.Rows
import Derived.Lib.AppendStr
import Derived.ArgAppend
import Derived.Laws.IdiomCopy
import Derived.OrdersHeld
import Derived.Laws.BitsLemmas
import Derived.RowKit
import Derived.Test.YtmmjnbpoilicjaaGreatBW
import Derived.Test.YtmmjnbpoilicjaaGreatBE5
set_option linter.unusedVariables false
set_option linter.unusedSimpArgs false
section
namespace Go.Proofs.YtmmjnbpoilicjaaGreat.PBundleParses
open Go.RowKit Go.Proofs.YtmmjnbpoilicjaaGreatW.PrintWords Go.Proofs.YtmmjnbpoilicjaaGreatW.PrintLast Go.Proofs.YtmmjnbpoilicjaaGreatW.PrintMore
attribute [local go_sem] max2_int min2_int max_two min_two max_three min_three max_four min_four   -- for this text's walks alone
def errW : Option Int → Value
 | none => .nilIface
 | some c => .iface 0 (.int .i64 c)
theorem errW_none : errW none = .nilIface := rfl
theorem errW_some (c : Int) : errW (some c) = .iface 0 (.int .i64 c) := rfl
def cmp_isNaN_int.f (a0 : Int) : Option (Bool) := some (a0 != a0)
set_option maxHeartbeats 8000000 in
set_option maxRecDepth 100000 in
theorem cmp_isNaN_int.calls (a0 : Int) (r : Bool) (w : World) (h : cmp_isNaN_int.f a0 = some r) :
  Calls Tryz.prog 124 #[.int .i64 a0] w fun e w' => e = .returned (.bool r) ∧ Drawn0 w w' := by
 have H : (some (a0 != a0)) = some r := h
 clear h
 obtain rfl := Option.some.inj H
 go_enter Tryz.func124, Tryz.ntmps124
 go_wp2
 go_ret
 exact ⟨Z11, Z18⟩
def cmp_Compare_int.f (a0 : Int) (a1 : Int) : Option (Int) := (cmp_isNaN_int.f a0).bind fun t726 => ((cmp_isNaN_int.f a1).bind fun t727 => (if t726 = true then (if t727 = true then (some 0) else (some (-1))) else (if t727 = true then (some 1) else (if a0 < a1 then (some (-1)) else (if a0 > a1 then (some 1) else (some 0))))))
set_option maxHeartbeats 8000000 in
set_option maxRecDepth 100000 in
theorem cmp_Compare_int.calls (a0 : Int) (a1 : Int) (r : Int) (w : World) (h : cmp_Compare_int.f a0 a1 = some r) :
  Calls Tryz.prog 166 #[.int .i64 a0, .int .i64 a1] w fun e w' => e = .returned (.int .i64 r) ∧ Drawn0 w w' := by
 have H : ((cmp_isNaN_int.f a0).bind fun t726 => ((cmp_isNaN_int.f a1).bind fun t727 => (if t726 = true then (if t727 = true then (some 0) else (some (-1))) else (if t727 = true then (some 1) else (if a0 < a1 then (some (-1)) else (if a0 > a1 then (some 1) else (some 0))))))) = some r := h
 clear h
 replace H := Option.bind_eq_some_iff.mp H
 obtain ⟨t726, A30, H⟩ := H
 replace H : ((cmp_isNaN_int.f a1).bind fun t727 => (if t726 = true then (if t727 = true then (some 0) else (some (-1))) else (if t727 = true then (some 1) else (if a0 < a1 then (some (-1)) else (if a0 > a1 then (some 1) else (some 0)))))) = some r := H
 have A3 := Ak A30
 clear A30
 replace H := Option.bind_eq_some_iff.mp H
 obtain ⟨t727, A40, H⟩ := H
 replace H : (if t726 = true then (if t727 = true then (some 0) else (some (-1))) else (if t727 = true then (some 1) else (if a0 < a1 then (some (-1)) else (if a0 > a1 then (some 1) else (some 0))))) = some r := H
 have A4 := Ak A40
 clear A40
 by_cases c5 : t726 = true
 ·subst c5
  have H1 : (if t727 = true then (some 0) else (some (-1))) = some r := by rw [if_pos rfl] at H; exact H
  clear H
  have H := H1
  clear H1
  by_cases c6 : t727 = true
  ·subst c6
   have H1 : (some 0) = some r := by rw [if_pos rfl] at H; exact H
   clear H
   have H := H1
   clear H1
   obtain rfl := Option.some.inj H
   go_enter Tryz.func166, Tryz.ntmps166
   go_wp2_with (first | ((with_reducible refine gate_callee (f := 124) rfl ?_); refine goesL_ (some 8) rfl rfl Tryz.func124 Z76 rfl #[.int .i64 a0] rfl Z4 ?_; (with_reducible refine (cmp_isNaN_int.calls a0 true _ A3.out).mono ?_); rintro e w' ⟨rfl, ⟨nd, rfl⟩⟩; refine ⟨_, rfl, ?_⟩) | ((with_reducible refine gate_callee (f := 124) rfl ?_); refine goesL_ (some 10) rfl rfl Tryz.func124 Z76 rfl #[.int .i64 a1] rfl Z4 ?_; (with_reducible refine (cmp_isNaN_int.calls a1 true _ A4.out).mono ?_); rintro e w' ⟨rfl, ⟨nd, rfl⟩⟩; refine ⟨_, rfl, ?_⟩))
   go_ret
   exact ⟨Z11, Z18⟩
  ·replace c6 := Bool.eq_false_iff.mpr c6
   subst c6
   have H1 : (some (-1)) = some r := by rw [if_neg (show ¬ (false = true) by decide)] at H; exact H
   clear H
   have H := H1
   clear H1
   obtain rfl := Option.some.inj H
   go_enter Tryz.func166, Tryz.ntmps166
   go_wp2_with (first | ((with_reducible refine gate_callee (f := 124) rfl ?_); refine goesL_ (some 8) rfl rfl Tryz.func124 Z76 rfl #[.int .i64 a0] rfl Z4 ?_; (with_reducible refine (cmp_isNaN_int.calls a0 true _ A3.out).mono ?_); rintro e w' ⟨rfl, ⟨nd, rfl⟩⟩; refine ⟨_, rfl, ?_⟩) | ((with_reducible refine gate_callee (f := 124) rfl ?_); refine goesL_ (some 10) rfl rfl Tryz.func124 Z76 rfl #[.int .i64 a1] rfl Z4 ?_; (with_reducible refine (cmp_isNaN_int.calls a1 false _ A4.out).mono ?_); rintro e w' ⟨rfl, ⟨nd, rfl⟩⟩; refine ⟨_, rfl, ?_⟩))
   go_ret
   exact ⟨Z11, Z18⟩
 ·replace c5 := Bool.eq_false_iff.mpr c5
  subst c5
  have H1 : (if t727 = true then (some 1) else (if a0 < a1 then (some (-1)) else (if a0 > a1 then (some 1) else (some 0)))) = some r := by rw [if_neg (show ¬ (false = true) by decide)] at H; exact H
  clear H
  have H := H1
  clear H1
  by_cases c7 : t727 = true
  ·subst c7
   have H1 : (some 1) = some r := by rw [if_pos rfl] at H; exact H
   clear H
   have H := H1
   clear H1
   obtain rfl := Option.some.inj H
   go_enter Tryz.func166, Tryz.ntmps166
   go_wp2_with (first | ((with_reducible refine gate_callee (f := 124) rfl ?_); refine goesL_ (some 8) rfl rfl Tryz.func124 Z76 rfl #[.int .i64 a0] rfl Z4 ?_; (with_reducible refine (cmp_isNaN_int.calls a0 false _ A3.out).mono ?_); rintro e w' ⟨rfl, ⟨nd, rfl⟩⟩; refine ⟨_, rfl, ?_⟩) | ((with_reducible refine gate_callee (f := 124) rfl ?_); refine goesL_ (some 10) rfl rfl Tryz.func124 Z76 rfl #[.int .i64 a1] rfl Z4 ?_; (with_reducible refine (cmp_isNaN_int.calls a1 true _ A4.out).mono ?_); rintro e w' ⟨rfl, ⟨nd, rfl⟩⟩; refine ⟨_, rfl, ?_⟩))
   go_ret
   exact ⟨Z11, Z18⟩
  ·replace c7 := Bool.eq_false_iff.mpr c7
   subst c7
   have H1 : (if a0 < a1 then (some (-1)) else (if a0 > a1 then (some 1) else (some 0))) = some r := by rw [if_neg (show ¬ (false = true) by decide)] at H; exact H
   clear H
   have H := H1
   clear H1
   by_cases c8 : a0 < a1
   ·rw [if_pos c8] at H
    have c8b0 : decide (a0 < a1) = true := decide_eq_true c8
    clear c8
    obtain rfl := Option.some.inj H
    go_enter Tryz.func166, Tryz.ntmps166
    go_wp2_with (first | ((with_reducible refine gate_callee (f := 124) rfl ?_); refine goesL_ (some 8) rfl rfl Tryz.func124 Z76 rfl #[.int .i64 a0] rfl Z4 ?_; (with_reducible refine (cmp_isNaN_int.calls a0 false _ A3.out).mono ?_); rintro e w' ⟨rfl, ⟨nd, rfl⟩⟩; refine ⟨_, rfl, ?_⟩) | ((with_reducible refine gate_callee (f := 124) rfl ?_); refine goesL_ (some 10) rfl rfl Tryz.func124 Z76 rfl #[.int .i64 a1] rfl Z4 ?_; (with_reducible refine (cmp_isNaN_int.calls a1 false _ A4.out).mono ?_); rintro e w' ⟨rfl, ⟨nd, rfl⟩⟩; refine ⟨_, rfl, ?_⟩))
    go_ret
    exact ⟨Z11, Z18⟩
   ·rw [if_neg c8] at H
    have c8b0 : decide (a0 < a1) = false := decide_eq_false c8
    clear c8
    by_cases c9 : a0 > a1
    ·rw [if_pos c9] at H
     have c9b0 : decide (a1 < a0) = true := decide_eq_true c9
     clear c9
     obtain rfl := Option.some.inj H
     go_enter Tryz.func166, Tryz.ntmps166
     go_wp2_with (first | ((with_reducible refine gate_callee (f := 124) rfl ?_); refine goesL_ (some 8) rfl rfl Tryz.func124 Z76 rfl #[.int .i64 a0] rfl Z4 ?_; (with_reducible refine (cmp_isNaN_int.calls a0 false _ A3.out).mono ?_); rintro e w' ⟨rfl, ⟨nd, rfl⟩⟩; refine ⟨_, rfl, ?_⟩) | ((with_reducible refine gate_callee (f := 124) rfl ?_); refine goesL_ (some 10) rfl rfl Tryz.func124 Z76 rfl #[.int .i64 a1] rfl Z4 ?_; (with_reducible refine (cmp_isNaN_int.calls a1 false _ A4.out).mono ?_); rintro e w' ⟨rfl, ⟨nd, rfl⟩⟩; refine ⟨_, rfl, ?_⟩))
     go_ret
     exact ⟨Z11, Z18⟩
    ·rw [if_neg c9] at H
     have c9b0 : decide (a1 < a0) = false := decide_eq_false c9
     clear c9
     obtain rfl := Option.some.inj H
     go_enter Tryz.func166, Tryz.ntmps166
     go_wp2_with (first | ((with_reducible refine gate_callee (f := 124) rfl ?_); refine goesL_ (some 8) rfl rfl Tryz.func124 Z76 rfl #[.int .i64 a0] rfl Z4 ?_; (with_reducible refine (cmp_isNaN_int.calls a0 false _ A3.out).mono ?_); rintro e w' ⟨rfl, ⟨nd, rfl⟩⟩; refine ⟨_, rfl, ?_⟩) | ((with_reducible refine gate_callee (f := 124) rfl ?_); refine goesL_ (some 10) rfl rfl Tryz.func124 Z76 rfl #[.int .i64 a1] rfl Z4 ?_; (with_reducible refine (cmp_isNaN_int.calls a1 false _ A4.out).mono ?_); rintro e w' ⟨rfl, ⟨nd, rfl⟩⟩; refine ⟨_, rfl, ?_⟩))
     go_ret
     exact ⟨Z11, Z18⟩
def cmp_Or_int.l0 : Nat → Int → List Int → Int → Int → Option (Int)
 | 0, _, _, _, _ => none
 | k + 1, x3, x6, x7, x8 => if x8 < x7 then (if 0 ≤ x8 then (if x8 < (x6.length : Int) then (if (rd x6 x8) = x3 then (cmp_Or_int.l0 k x3 x6 x7 (wrap64 (x8 + 1))) else (some (rd x6 x8))) else (none)) else (none)) else (some x3)
def cmp_Or_int.f (k : Nat) (l0 : List Int) : Option (Int) := cmp_Or_int.l0 k 0 l0 (l0.length : Int) 0
set_option maxHeartbeats 8000000 in
set_option maxRecDepth 100000 in
theorem cmp_Or_int.calls (k : Nat) (A0 : Option Addr) (c0 : Nat) (l0 : List Int) (r : Int) (w : World) (hr0 : Kd.C (Kd.int .i64) w A0 l0.length l0) (hc0 : l0.length ≤ c0) (h : cmp_Or_int.f k l0 = some r) :
  Calls Tryz.prog 168 #[.slice A0 l0.length c0] w fun e w' => e = .returned (.int .i64 r) ∧ Drawn0 w w' := by
 have HR0 := Ak hr0
 have HC0 := Ak hc0
 clear hr0 hc0
 have H : (cmp_Or_int.l0 k 0 l0 (l0.length : Int) 0) = some r := h
 clear h
 have H' := Ak H
 clear H
 go_enter Tryz.func168, Tryz.ntmps168
 go_wp2
 go_loopg [8] k (fun kq v8 w' => ∃ (x8_1 : Int), v8 = .int .i64 x8_1 ∧ Aside0 (cmp_Or_int.l0 kq 0 l0 (l0.length : Int) x8_1 = some r) ∧ Aside0 (kq ≤ k) ∧ Drawn0 w w')
 case atStart => exact ⟨(0), Z11, H', ⟨Nat.le_refl _⟩, Z18⟩
 case round =>
  clear H'
  try clear c1
  obtain ⟨x8_1, rfl, HA, HK1, ⟨m1, rfl⟩⟩ := hrel
  cases gk with
  | zero => exact absurd HA.out (by simp [cmp_Or_int.l0])
  | succ k1 =>
   have H := HA.out
   clear HA
   simp only [cmp_Or_int.l0] at H
   by_cases c2 : x8_1 < (l0.length : Int)
   ·rw [if_pos c2] at H
    have c2b0 : decide (x8_1 < (l0.length : Int)) = true := decide_eq_true c2
    clear c2
    by_cases c3 : 0 ≤ x8_1
    ·rw [if_pos c3] at H
     have c3b0 : decide (0 ≤ x8_1) = true := decide_eq_true c3
     clear c3
     by_cases c4 : x8_1 < (l0.length : Int)
     ·rw [if_pos c4] at H
      have c4b0 : decide (x8_1 < (l0.length : Int)) = true := decide_eq_true c4
      clear c4
      by_cases c5 : (rd l0 x8_1) = 0
      ·rw [if_pos c5] at H
       have c5b0 : ((rd l0 x8_1) == 0) = true := beq_iff_eq.mpr c5
       have c5b1 : ((rd l0 x8_1) != 0) = false := bne_eq_false_iff_eq.mpr c5
       clear c5
       have H' := Ak H
       clear H
       have p728 : 0 ≤ (x8_1 : Int) := of_decide_eq_true Z20
       have q728 : x8_1 < (l0.length : Int) := of_decide_eq_true Z20
       obtain ⟨ad728, e728, hx728_0⟩ := Kd.at_int HR0.out x8_1 p728 q728
       cases e728
       replace p728 := eq_true p728
       replace q728 := eq_true q728
       go_wp2
       go_roundg k1
       case measure => have := HK1.out; omega
       case rel => exact ⟨(wrap64 (x8_1 + 1)), Z11, H', ⟨by have := HK1.out; omega⟩, Z18⟩
      ·rw [if_neg c5] at H
       have c5b0 : ((rd l0 x8_1) == 0) = false := beq_eq_false_iff_ne.mpr c5
       have c5b1 : ((rd l0 x8_1) != 0) = true := bne_iff_ne.mpr c5
       obtain rfl := Option.some.inj H
       have p728 : 0 ≤ (x8_1 : Int) := of_decide_eq_true Z20
       have q728 : x8_1 < (l0.length : Int) := of_decide_eq_true Z20
       obtain ⟨ad728, e728, hx728_0⟩ := Kd.at_int HR0.out x8_1 p728 q728
       cases e728
       replace p728 := eq_true p728
       replace q728 := eq_true q728
       go_wp2
       go_ret
       exact ⟨Z11, Z18⟩
     ·rw [if_neg c4] at H
      exact absurd H (by simp)
    ·rw [if_neg c3] at H
     exact absurd H (by simp)
   ·rw [if_neg c2] at H
    have c2b0 : decide (x8_1 < (l0.length : Int)) = false := decide_eq_false c2
    clear c2
    obtain rfl := Option.some.inj H
    go_wp2
    go_ret
    exact ⟨Z11, Z18⟩
def state_compare.f (k : Nat) (a0_0 : Int) (a0_1 : Int) (a1_0 : Int) (a1_1 : Int) : Option (Int) := (cmp_Compare_int.f a0_0 a1_0).bind fun t731 => ((cmp_Compare_int.f a0_1 a1_1).bind fun t732 => ((cmp_Or_int.f k (([t731, t732] : List Int))).bind fun t736 => (some t736)))
def state_compare.T1 : Bool × List (List Nat × List Nat) := (true, [([], []), ([0], [0]), ([], []), ([2], [2]), ([1, 3], [1, 3]), ([], []), ([5], [5]), ([], []), ([7], [7]), ([6, 8, 4], [6, 8]), ([4, 9], [4, 9]), ([10, 9], [10]), ([11, 11, 0, 1, 2, 3, 4, 5, 6, 7, 8, 9, 10, 11], [11])])
def state_compare.B1 : List Nat := [0, 1, 0, 4, 15, 0, 32, 0, 128, 511, 1023, 2047, 4095]
theorem state_compare.tab1 : rtab .any (opsOf Tryz.f138 1) = state_compare.T1 := by kernel_rfl
theorem state_compare.bits1 : waitsOk state_compare.T1.2 state_compare.B1 = true := by kernel_rfl
set_option maxHeartbeats 8000000 in
set_option maxRecDepth 100000 in
theorem state_compare.calls (k : Nat) (a0_0 : Int) (a0_1 : Int) (a1_0 : Int) (a1_1 : Int) (r : Int) (w : World) (h : state_compare.f k a0_0 a0_1 a1_0 a1_1 = some r) :
  Calls Tryz.prog 138 #[.agg #[.int .i64 a0_0, .int .i64 a0_1], .agg #[.int .i64 a1_0, .int .i64 a1_1]] w fun e w' => e = .returned (.int .i64 r) ∧ Below w.heap.size w w' := by
 have hu202 := Tryz.underlying202
 have HB := Ak (Below.refl w.heap.size w)
 have H : ((cmp_Compare_int.f a0_0 a1_0).bind fun t731 => ((cmp_Compare_int.f a0_1 a1_1).bind fun t732 => ((cmp_Or_int.f k (([t731, t732] : List Int))).bind fun t736 => (some t736)))) = some r := h
 clear h
 replace H := Option.bind_eq_some_iff.mp H
 obtain ⟨t731, A30, H⟩ := H
 replace H : ((cmp_Compare_int.f a0_1 a1_1).bind fun t732 => ((cmp_Or_int.f k (([t731, t732] : List Int))).bind fun t736 => (some t736))) = some r := H
 have A3 := Ak A30
 clear A30
 replace H := Option.bind_eq_some_iff.mp H
 obtain ⟨t732, A40, H⟩ := H
 replace H : ((cmp_Or_int.f k (([t731, t732] : List Int))).bind fun t736 => (some t736)) = some r := H
 have A4 := Ak A40
 clear A40
 obtain ⟨y733, hy733⟩ : ∃ y_ : List Int, y_ = (([t731, t732] : List Int)) := ⟨_, rfl⟩
 replace H : ((cmp_Or_int.f k y733).bind fun t736 => (some t736)) = some r := by first | (rw [hy733]; with_reducible exact H) | (have H2_ := (Option.bind_some _ _).symm.trans H; rw [hy733]; with_reducible exact H2_) | (have H2_ := (Option.bind_some _ _).symm.trans H; with_reducible exact H2_) | with_reducible exact H | (rw [hy733]; exact H) | exact H
 have Ny733 := Ak hy733
 clear hy733
 replace H := Option.bind_eq_some_iff.mp H
 obtain ⟨t736, A50, H⟩ := H
 replace H : (some t736) = some r := H
 have A5 := Ak A50
 clear A50
 obtain rfl := Option.some.inj H
 go_enter Tryz.func138, Tryz.ntmps138
 try go_wp2_with (first | ((with_reducible refine gate_dst (N := 2) rfl ?_); refine box_event ?hg (N := 2) ?hd (cs := #[.int .i64 a0_0, .int .i64 a0_1]) (t := 202) ?hr ?_; (case hd => rfl); (case hg => rfl); (case hr => exact Z16); intro gb729 hg w6 hbox hb; have n0_ := Ak (below_step Z1 hb); have n1_ := Ak (hbox); have n2_ := Ak ((Z36 : w.heap.size ≤ gb729)); have n3_ := Ak ((Z36 : w.heap.size ≤ gb729)); clear HB; have HB := n0_; have BK729 := n1_; have GW729 := n2_; have GE729 := n3_; clear n0_ n1_ n2_ n3_; clear hb hbox hg) | ((with_reducible refine gate_dst (N := 3) rfl ?_); refine box_event ?hg (N := 3) ?hd (cs := #[.int .i64 a1_0, .int .i64 a1_1]) (t := 202) ?hr ?_; (case hd => rfl); (case hg => rfl); (case hr => exact Z16); intro gb730 hg w7 hbox hb; have n0_ := Ak (blk_below (g := gb729) (o := .cells #[.int .i64 a0_0, .int .i64 a0_1] 202 (0, 0)) (by refine bz ?_; exact BK729.out) hb); have n1_ := Ak (below_step Z49 hb); have n2_ := Ak (hbox); have n3_ := Ak ((by rw [hg]; exact (below_size Z49) : w.heap.size ≤ gb730)); have n4_ := Ak ((by rw [hg]; exact (below_size Z49) : w.heap.size ≤ gb730)); have n5_ := Ak ((by rw [hg]; exact Nat.ne_of_lt (blk_lt (g := gb729) (o := .cells #[.int .i64 a0_0, .int .i64 a0_1] 202 (0, 0)) (by refine bz ?_; exact BK729.out)) : gb729 ≠ gb730)); have n6_ := Ak ((by rw [hg]; exact Nat.ne_of_gt (blk_lt (g := gb729) (o := .cells #[.int .i64 a0_0, .int .i64 a0_1] 202 (0, 0)) (by refine bz ?_; exact BK729.out)) : gb730 ≠ gb729)); clear BK729; clear HB; have BK729 := n0_; have HB := n1_; have BK730 := n2_; have GW730 := n3_; have GE730 := n4_; have NB729_730 := n5_; have NB730_729 := n6_; clear n0_ n1_ n2_ n3_ n4_ n5_ n6_; clear hb hbox hg))
 have n0_ := Ak (blk_drew BK729.out)
 have n1_ := Ak (blk_drew BK730.out)
 have n2_ := Ak (below_drew1 HB.out)
 clear BK729
 clear BK730
 clear HB
 have BK729 := n0_
 have BK730 := n1_
 have HB := n2_
 clear n0_ n1_ n2_
 refine start_ (n := 13) (S := fun w' => w'.cell? ⟨gb729, 0, none⟩ = some (.int .i64 a0_0) ∧ w'.cell? ⟨gb729, 1, none⟩ = some (.int .i64 a0_1) ∧ w'.cell? ⟨gb730, 0, none⟩ = some (.int .i64 a1_0) ∧ w'.cell? ⟨gb730, 1, none⟩ = some (.int .i64 a1_1)) (ds := []) #[false, false, false, false, false, false, false, false, false, false, false, false, false] Z76 rfl rfl ⟨(blk_cell BK729.out 0).trans rfl, (blk_cell BK729.out 1).trans rfl, (blk_cell BK730.out 0).trans rfl, (blk_cell BK730.out 1).trans rfl⟩ (fun hHeld => ?_); refine with_tabW state_compare.tab1 state_compare.bits1 (fun HT_ HW_ => ?_)
 generalize w7.drew = w8 at BK729 BK730 HB hHeld ⊢
 refine pure_ (i := 0) (N := some 5) (v := ?_) (a' := ?_) #[true, false, false, false, false, false, false, false, false, false, false, false, false] rfl rfl (any_of HT_.out Z76) (fun _ _ _ h => h) (Or.inl ⟨by rfl, ?_⟩) ?_ ?_
 rotate_left
 ·intro w'
  go_simp
  with_reducible rfl
 rotate_left
 ·simp only [Act.put, List.setIfInBounds_toArray, List.set_cons_zero, List.set_cons_succ, i64_w, i32_w]
  rfl
 refine pure_ (i := 2) (N := some 7) (v := ?_) (a' := ?_) #[true, false, true, false, false, false, false, false, false, false, false, false, false] rfl rfl (any_of HT_.out Z76) (fun _ _ _ h => h) (Or.inl ⟨by rfl, ?_⟩) ?_ ?_
 rotate_left
 ·intro w'
  go_simp
  with_reducible rfl
 rotate_left
 ·simp only [Act.put, List.setIfInBounds_toArray, List.set_cons_zero, List.set_cons_succ, i64_w, i32_w]
  rfl
 refine pure_ (i := 5) (N := some 10) (v := ?_) (a' := ?_) #[true, false, true, false, false, true, false, false, false, false, false, false, false] rfl rfl (any_of HT_.out Z76) (fun _ _ _ h => h) (Or.inl ⟨by rfl, ?_⟩) ?_ ?_
 rotate_left
 ·intro w'
  go_simp
  with_reducible rfl
 rotate_left
 ·simp only [Act.put, List.setIfInBounds_toArray, List.set_cons_zero, List.set_cons_succ, i64_w, i32_w]
  rfl
 refine pure_ (i := 7) (N := some 12) (v := ?_) (a' := ?_) #[true, false, true, false, false, true, false, true, false, false, false, false, false] rfl rfl (any_of HT_.out Z76) (fun _ _ _ h => h) (Or.inl ⟨by rfl, ?_⟩) ?_ ?_
 rotate_left
 ·intro w'
  go_simp
  with_reducible rfl
 rotate_left
 ·simp only [Act.put, List.setIfInBounds_toArray, List.set_cons_zero, List.set_cons_succ, i64_w, i32_w]
  rfl
 refine take_ (i := 1) (N := some 6) (v := ?_) (a' := ?_) #[true, true, true, false, false, true, false, true, false, false, false, false, false] rfl rfl (take_ofW HT_.out HW_.out Z76) (fun _ _ _ h => h) (Or.inl ⟨by rfl, ?_⟩) hHeld ?_ ?_
 rotate_left
 ·rintro w' ⟨s0, s1, s2, s3⟩
  go_simp
  with_reducible rfl
 rotate_left
 ·simp only [Act.put, List.setIfInBounds_toArray, List.set_cons_zero, List.set_cons_succ, i64_w, i32_w]
  rfl
 refine take_ (i := 3) (N := some 8) (v := ?_) (a' := ?_) #[true, true, true, true, false, true, false, true, false, false, false, false, false] rfl rfl (take_ofW HT_.out HW_.out Z76) (fun _ _ _ h => h) (Or.inl ⟨by rfl, ?_⟩) hHeld ?_ ?_
 rotate_left
 ·rintro w' ⟨s0, s1, s2, s3⟩
  go_simp
  with_reducible rfl
 rotate_left
 ·simp only [Act.put, List.setIfInBounds_toArray, List.set_cons_zero, List.set_cons_succ, i64_w, i32_w]
  rfl
 refine take_ (i := 6) (N := some 11) (v := ?_) (a' := ?_) #[true, true, true, true, false, true, true, true, false, false, false, false, false] rfl rfl (take_ofW HT_.out HW_.out Z76) (fun _ _ _ h => h) (Or.inl ⟨by rfl, ?_⟩) hHeld ?_ ?_
 rotate_left
 ·rintro w' ⟨s0, s1, s2, s3⟩
  go_simp
  with_reducible rfl
 rotate_left
 ·simp only [Act.put, List.setIfInBounds_toArray, List.set_cons_zero, List.set_cons_succ, i64_w, i32_w]
  rfl
 refine take_ (i := 8) (N := some 13) (v := ?_) (a' := ?_) #[true, true, true, true, false, true, true, true, true, false, false, false, false] rfl rfl (take_ofW HT_.out HW_.out Z76) (fun _ _ _ h => h) (Or.inl ⟨by rfl, ?_⟩) hHeld ?_ ?_
 rotate_left
 ·rintro w' ⟨s0, s1, s2, s3⟩
  go_simp
  with_reducible rfl
 rotate_left
 ·simp only [Act.put, List.setIfInBounds_toArray, List.set_cons_zero, List.set_cons_succ, i64_w, i32_w]
  rfl
 refine one_ (i := 4) (N := some 9) #[true, true, true, true, true, true, true, true, true, false, false, false, false] rfl rfl (one_of HT_.out Z76) (by decide) (fun K hK => ?_)
 refine goes_ Tryz.func166 Z76 rfl #[.int .i64 a0_0, .int .i64 a1_0] (by rfl) rfl rfl Z4 ?_
 with_reducible refine (cmp_Compare_int.calls a0_0 a1_0 t731 _ A3.out).mono ?_
 rintro e w' ⟨rfl, ⟨nd, rfl⟩⟩
 refine ⟨_, rfl, ?_⟩
 refine hK.out _ _ ⟨(blk_cell BK729.out 0).trans rfl, (blk_cell BK729.out 1).trans rfl, (blk_cell BK730.out 0).trans rfl, (blk_cell BK730.out 1).trans rfl⟩ (fun hHeld => ?_)
 clear hK K
 refine norm_ (a' := ?_) ?_ ?_
 rotate_left
 ·show Act.put _ (some 9) _ = _
  simp only [Act.put, List.setIfInBounds_toArray, List.set_cons_zero, List.set_cons_succ, i64_w, i32_w]
  rfl
 refine one_ (i := 9) (N := some 14) #[true, true, true, true, true, true, true, true, true, true, false, false, false] rfl rfl (one_of HT_.out Z76) (by decide) (fun K hK => ?_)
 refine goes_ Tryz.func166 Z76 rfl #[.int .i64 a0_1, .int .i64 a1_1] (by rfl) rfl rfl Z4 ?_
 with_reducible refine (cmp_Compare_int.calls a0_1 a1_1 t732 _ A4.out).mono ?_
 rintro e w' ⟨rfl, ⟨nd, rfl⟩⟩
 refine ⟨_, rfl, ?_⟩
 refine hK.out _ _ ⟨(blk_cell BK729.out 0).trans rfl, (blk_cell BK729.out 1).trans rfl, (blk_cell BK730.out 0).trans rfl, (blk_cell BK730.out 1).trans rfl⟩ (fun hHeld => ?_)
 clear hK K
 refine norm_ (a' := ?_) ?_ ?_
 rotate_left
 ·show Act.put _ (some 14) _ = _
  simp only [Act.put, List.setIfInBounds_toArray, List.set_cons_zero, List.set_cons_succ, i64_w, i32_w]
  rfl
 refine one_ (i := 10) (N := some 15) #[true, true, true, true, true, true, true, true, true, true, true, false, false] rfl rfl (one_of HT_.out Z76) (by decide) (fun K hK => ?_)
 refine Kd.R_lit_step (Kd.int .i64) _ 3 ?hg (N := 15) ?hd (xs := ([t731, t732] : List Int)) (inner := [.int .i64 t731, .int .i64 t732]) (ok := fun _ => True) (okp := fun _ => True) ?hr ?hp (fun _ hk => hk) trivial (Below.refl _ _) (Nat.le_refl _) (by simp) ?_; (case hd => rfl); (case hg => rfl); (case hr => exact Z16); (case hp => exact (Reps.one (show Kd.M (Kd.int .i64) _ _ _ t731 [.int .i64 t731] from rfl) (Reps.one (show Kd.M (Kd.int .i64) _ _ _ t732 [.int .i64 t732] from rfl) (Reps.none _ _))))
 intro v734 w9 ho10 hb hg_ hnew_
 clear hg_ hnew_
 (first | rw [← Ny733.out] at ho10 | (simp only [Int.reduceToNat] at ho10; rw [← Ny733.out] at ho10))
 have n0_ := Ak (Kd.R_lower ho10 (below_size Z42))
 have n1_ := Ak (blk_below (g := gb729) (o := .cells #[.int .i64 a0_0, .int .i64 a0_1] 202 (0, 0)) (by refine bz ?_; exact BK729.out) hb)
 have n2_ := Ak (blk_below (g := gb730) (o := .cells #[.int .i64 a1_0, .int .i64 a1_1] 202 (0, 0)) (by refine bz ?_; exact BK730.out) hb)
 have n3_ := Ak (below_step Z42 hb)
 clear BK729
 clear BK730
 clear HB
 have HO735 := n0_
 have BK729 := n1_
 have BK730 := n2_
 have HB := n3_
 clear n0_ n1_ n2_ n3_
 clear hb ho10
 obtain ⟨Ao11, co11, eo11⟩ := Kd.R_slice HO735.out
 (first | subst eo11 | (injection eo11 with f1_ f2_ f3_; have f4_ := f1_.symm; have f5_ := f3_.symm; clear f1_ f2_ f3_; subst f4_; subst f5_))
 refine hK.out _ _ ⟨(blk_cell BK729.out 0).trans rfl, (blk_cell BK729.out 1).trans rfl, (blk_cell BK730.out 0).trans rfl, (blk_cell BK730.out 1).trans rfl⟩ (fun hHeld => ?_)
 clear hK K
 refine norm_ (a' := ?_) ?_ ?_
 rotate_left
 ·show Act.put _ (some 15) _ = _
  simp only [Act.put, List.setIfInBounds_toArray, List.set_cons_zero, List.set_cons_succ, i64_w, i32_w]
  rfl
 refine one_ (i := 11) (N := some 16) #[true, true, true, true, true, true, true, true, true, true, true, true, false] rfl rfl (one_of HT_.out Z76) (by decide) (fun K hK => ?_)
 refine goes_ Tryz.func168 Z76 rfl #[.slice Ao11 y733.length co11] (by rfl) rfl rfl Z4 ?_
 with_reducible refine (cmp_Or_int.calls k _ _ y733 t736 _ ?side1 ?side2 A5.out).mono ?_
 (case side1 => repeat (first | exact (Kd.R_reads' HO735.out).2.2 | (with_reducible refine Kd.C_alloc ?_ _) | (with_reducible refine Kd.C_drewN ?_ _) | (with_reducible refine Kd.C_drew ?_)))
 (case side2 => exact (Kd.R_reads' HO735.out).2.1)
 rintro e w' ⟨rfl, ⟨nd, rfl⟩⟩
 refine ⟨_, rfl, ?_⟩
 refine hK.out _ _ ⟨(blk_cell BK729.out 0).trans rfl, (blk_cell BK729.out 1).trans rfl, (blk_cell BK730.out 0).trans rfl, (blk_cell BK730.out 1).trans rfl⟩ (fun hHeld => ?_)
 clear hK K
 refine norm_ (a' := ?_) ?_ ?_
 rotate_left
 ·show Act.put _ (some 16) _ = _
  simp only [Act.put, List.setIfInBounds_toArray, List.set_cons_zero, List.set_cons_succ, i64_w, i32_w]
  rfl
 refine pure_ (i := 12) (N := some 4) (v := ?_) (a' := ?_) #[true, true, true, true, true, true, true, true, true, true, true, true, true] rfl rfl (any_of HT_.out Z76) (fun _ _ _ h => h) (Or.inl ⟨by rfl, ?_⟩) ?_ ?_
 rotate_left
 ·intro w'
  go_simp
  with_reducible rfl
 rotate_left
 ·simp only [Act.put, List.setIfInBounds_toArray, List.set_cons_zero, List.set_cons_succ, i64_w, i32_w]
  rfl
 refine done_ (done_of HT_.out Z76) ?_
 try go_wp2
 go_ret
 exact ⟨Z6, Z42⟩
end Go.Proofs.YtmmjnbpoilicjaaGreat.PBundleParses
end
section
namespace Go.E
open Go Go.RowKit Go.Proofs
theorem cmp_is (a b c d : Int) : Go.Proofs.YtmmjnbpoilicjaaGreat.PBundleParses.state_compare.f 4 a b c d = some (cmpN a c (cmpN b d 0)) := by
  have hc : ∀ x y : Int, Go.Proofs.YtmmjnbpoilicjaaGreat.PBundleParses.cmp_Compare_int.f x y = some (cmpN x y 0) := fun x y => by
    simp only [Go.Proofs.YtmmjnbpoilicjaaGreat.PBundleParses.cmp_Compare_int.f, Go.Proofs.YtmmjnbpoilicjaaGreat.PBundleParses.cmp_isNaN_int.f, cmpN]
    simp
    split
    · rw [if_neg (by omega), if_pos (by omega)]
    · split
      · rw [if_neg (by omega), if_neg (by omega)]
      · rw [if_pos (by omega)]
  have ho : ∀ x y : Int, Go.Proofs.YtmmjnbpoilicjaaGreat.PBundleParses.cmp_Or_int.f 4 [x, y] = some (if x = 0 then y else x) := fun x y => by
    have h1 : RowKit.wrap64 (0 + 1) = 1 := by unfold RowKit.wrap64; omega
    have h2 : RowKit.wrap64 (1 + 1) = 2 := by unfold RowKit.wrap64; omega
    have h3 : Go.Proofs.YtmmjnbpoilicjaaGreatW.PrintWords.rd [x, y] 1 = y := rfl
    have h5 : Go.Proofs.YtmmjnbpoilicjaaGreatW.PrintWords.rd [x, y] 0 = x := rfl
    have hl : (([x, y] : List Int).length : Int) = 2 := rfl
    have h4 : Go.Proofs.YtmmjnbpoilicjaaGreat.PBundleParses.cmp_Or_int.l0 (1 + 1) 0 [x, y] 2 2 = some 0 := by
      rw [Go.Proofs.YtmmjnbpoilicjaaGreat.PBundleParses.cmp_Or_int.l0, if_neg (by omega)]
    show Go.Proofs.YtmmjnbpoilicjaaGreat.PBundleParses.cmp_Or_int.l0 (3 + 1) 0 [x, y] (([x, y] : List Int).length : Int) 0 = _
    have h6 : Go.Proofs.YtmmjnbpoilicjaaGreat.PBundleParses.cmp_Or_int.l0 (2 + 1) 0 [x, y] 2 1 = some y := by
      rw [Go.Proofs.YtmmjnbpoilicjaaGreat.PBundleParses.cmp_Or_int.l0, hl, if_pos (by omega), if_pos (by omega), if_pos (by omega), h3, h2, h4]
      by_cases hy : y = 0
      · rw [if_pos hy, hy]
      · rw [if_neg hy]
    rw [Go.Proofs.YtmmjnbpoilicjaaGreat.PBundleParses.cmp_Or_int.l0, hl, if_pos (by omega), if_pos (by omega), if_pos (by omega), h5, h1, h6]
    by_cases hx : x = 0
    · rw [if_pos hx, if_pos hx]
    · rw [if_neg hx, if_neg hx]
  rw [Go.Proofs.YtmmjnbpoilicjaaGreat.PBundleParses.state_compare.f, hc, Option.bind_some, hc, Option.bind_some, ho, Option.bind_some]
  congr 1
  unfold cmpN
  by_cases h1 : a = c
  · rw [if_pos h1, if_pos h1, if_pos rfl]
  · rw [if_neg h1, if_neg h1]
    split <;> rw [if_neg (by omega)]
theorem cmp_one (x y : Int) : Go.Proofs.YtmmjnbpoilicjaaGreat.PBundleParses.cmp_Compare_int.f x y = some (cmpN x y 0) := by
  simp only [Go.Proofs.YtmmjnbpoilicjaaGreat.PBundleParses.cmp_Compare_int.f, Go.Proofs.YtmmjnbpoilicjaaGreat.PBundleParses.cmp_isNaN_int.f, cmpN]
  simp
  split
  · rw [if_neg (by omega), if_pos (by omega)]
  · split
    · rw [if_neg (by omega), if_neg (by omega)]
    · rw [if_pos (by omega)]
theorem prim_compare0 : PrimOk Tryz.prog 138 pCompare :=
  prim_compare Tryz.func138 rfl rfl fun a b c d w => Go.Proofs.YtmmjnbpoilicjaaGreat.PBundleParses.state_compare.calls 4 a b c d _ w (cmp_is a b c d)
end Go.E
end
section
namespace Go.Proofs.YtmmjnbpoilicjaaGreat.PBundleParses
open Go.RowKit Go.Proofs.YtmmjnbpoilicjaaGreatW.PrintWords Go.Proofs.YtmmjnbpoilicjaaGreatW.PrintLast Go.Proofs.YtmmjnbpoilicjaaGreatW.PrintMore
attribute [local go_sem] max2_int min2_int max_two min_two max_three min_three max_four min_four   -- for this text's walks alone
section
variable {P : Program} {ops : Array Oper} {rest : List Oper} {o : Oper} {a : Act} {Q : Exit → Act → World → Prop} {Kc : Act → World → Prop}
theorem box_eventD {W : World} (hgd : o.guard = none) {N : Tmp} (_hd : o.dst = some N) {cs : Array Value} {t : TypeId}
  (hrun : (execOp a.eval o).run P W = .ok (.value (.pointer (some ⟨W.heap.size, 0, none⟩))) (W.alloc (.cells cs t (0, 0))))
  (h : ∀ g, g = W.heap.size → ∀ w1, w1.heap[g]? = some (.cells cs t (0, 0)) → Below W.heap.size W w1 → Aside0 (w1.drawn = W.drawn) → wpList P ops Q rest (a.put o.dst (.pointer (some ⟨g, 0, none⟩))) w1) : wpList P ops Q (o :: rest) a W :=
 Kd.event_run hgd hrun (h _ rfl _ (blk_new W _) (below_alloc (Below.refl _ _) _) ⟨rfl⟩)
theorem R_lit_stepD {α : Type} (d : Kd α) {W w0 : World} (base e : Nat) (hw : Region.wanted o (yielded ops a.tmps) = true) {N : Tmp} (_hd : o.dst = some N) {xs : List α} {inner : List Value} {ok okp : Nat → Prop}
  (hrun : (execOp a.eval o).run P W = .ok (.value (.slice (some ⟨W.heap.size, 0, none⟩) xs.length xs.length)) (W.alloc (.cells inner.toArray e)))
  (hrep : Reps (d.M W base okp) d.sz xs inner) (hok : ∀ k, okp k → ok k) (hfresh : ok W.heap.size) (HB : Below base w0 W) (hbase : base ≤ W.heap.size) (hm : xs.length ≤ 9223372036854775807)
  (h : ∀ v1 w1, d.R e w1 base ok v1 xs → Below base w0 w1 → W.grownBy w1 none → (∃ b, v1.ownBlock = some b ∧ W.heap.size ≤ b) → Aside0 (w1.drawn = W.drawn) → Kc (a.put o.dst v1) w1) : if Region.wanted o (yielded ops a.tmps) = true then Oper.wp P o a W Kc Q else Kc (a.put o.dst undef) W := by
 have hx := Kd.R_lit_step (P := P) (ops := ops) (o := o) (a := a) (Q := Q) (Kc := fun a1 w1 => w1 = W.alloc (.cells inner.toArray e) → Kc a1 w1) d base e hw _hd hrun hrep hok hfresh HB hbase hm (fun v1 w1 h1 h2 h3 h4 h5 => h v1 w1 h1 h2 h3 h4 (by rw [h5]; exact ⟨rfl⟩))
 rw [if_pos hw] at hx ⊢
 unfold Oper.wp at hx ⊢
 rw [hrun] at hx ⊢
 exact hx rfl
end
def recursive_compare.T1 : Bool × List (List Nat × List Nat) := (true, [([], []), ([0], [0]), ([], []), ([2], [2]), ([1, 3], [1, 3]), ([], []), ([5], [5]), ([], []), ([7], [7]), ([6, 8, 4], [6, 8]), ([4, 9], [4, 9]), ([10, 9], [10]), ([11, 11, 0, 1, 2, 3, 4, 5, 6, 7, 8, 9, 10, 11], [11])])
def recursive_compare.B1 : List Nat := [0, 1, 0, 4, 15, 0, 32, 0, 128, 511, 1023, 2047, 4095]
theorem recursive_compare.tab1 : rtab .any (opsOf Tryz.f162 1) = recursive_compare.T1 := by kernel_rfl
theorem recursive_compare.bits1 : waitsOk recursive_compare.T1.2 recursive_compare.B1 = true := by kernel_rfl
set_option maxHeartbeats 8000000 in
set_option maxRecDepth 100000 in
theorem recursive_compare.calls (k : Nat) (a0_0 : Int) (a0_1 : Int) (a1_0 : Int) (a1_1 : Int) (r : Int) (w : World) (h : state_compare.f k a0_0 a0_1 a1_0 a1_1 = some r) :
  Calls Tryz.prog 162 #[.agg #[.int .i64 a0_0, .int .i64 a0_1], .agg #[.int .i64 a1_0, .int .i64 a1_1]] w fun e w' => e = .returned (.int .i64 r) ∧ Below w.heap.size w w' ∧ w.drawn ≤ w'.drawn := by
 have hu202 := Tryz.underlying202
 have HB := Ak (Below.refl w.heap.size w)
 have H : ((cmp_Compare_int.f a0_0 a1_0).bind fun t731 => ((cmp_Compare_int.f a0_1 a1_1).bind fun t732 => ((cmp_Or_int.f k (([t731, t732] : List Int))).bind fun t736 => (some t736)))) = some r := h
 clear h
 replace H := Option.bind_eq_some_iff.mp H
 obtain ⟨t731, A30, H⟩ := H
 replace H : ((cmp_Compare_int.f a0_1 a1_1).bind fun t732 => ((cmp_Or_int.f k (([t731, t732] : List Int))).bind fun t736 => (some t736))) = some r := H
 have A3 := Ak A30
 clear A30
 replace H := Option.bind_eq_some_iff.mp H
 obtain ⟨t732, A40, H⟩ := H
 replace H : ((cmp_Or_int.f k (([t731, t732] : List Int))).bind fun t736 => (some t736)) = some r := H
 have A4 := Ak A40
 clear A40
 obtain ⟨y733, hy733⟩ : ∃ y_ : List Int, y_ = (([t731, t732] : List Int)) := ⟨_, rfl⟩
 replace H : ((cmp_Or_int.f k y733).bind fun t736 => (some t736)) = some r := by first | (rw [hy733]; with_reducible exact H) | (have H2_ := (Option.bind_some _ _).symm.trans H; rw [hy733]; with_reducible exact H2_) | (have H2_ := (Option.bind_some _ _).symm.trans H; with_reducible exact H2_) | with_reducible exact H | (rw [hy733]; exact H) | exact H
 have Ny733 := Ak hy733
 clear hy733
 replace H := Option.bind_eq_some_iff.mp H
 obtain ⟨t736, A50, H⟩ := H
 replace H : (some t736) = some r := H
 have A5 := Ak A50
 clear A50
 obtain rfl := Option.some.inj H
 go_enter Tryz.func162, Tryz.ntmps162
 try go_wp2_with (first | ((with_reducible refine gate_dst (N := 2) rfl ?_); refine box_eventD ?hg (N := 2) ?hd (cs := #[.int .i64 a0_0, .int .i64 a0_1]) (t := 202) ?hr ?_; (case hd => rfl); (case hg => rfl); (case hr => exact Z16); intro gb729 hg w6 hbox hb hD6; have n0_ := Ak (below_step Z1 hb); have n1_ := Ak (hbox); have n2_ := Ak ((Z36 : w.heap.size ≤ gb729)); have n3_ := Ak ((Z36 : w.heap.size ≤ gb729)); clear HB; have HB := n0_; have BK729 := n1_; have GW729 := n2_; have GE729 := n3_; clear n0_ n1_ n2_ n3_; clear hb hbox hg) | ((with_reducible refine gate_dst (N := 3) rfl ?_); refine box_eventD ?hg (N := 3) ?hd (cs := #[.int .i64 a1_0, .int .i64 a1_1]) (t := 202) ?hr ?_; (case hd => rfl); (case hg => rfl); (case hr => exact Z16); intro gb730 hg w7 hbox hb hD7; have n0_ := Ak (blk_below (g := gb729) (o := .cells #[.int .i64 a0_0, .int .i64 a0_1] 202 (0, 0)) (by refine bz ?_; exact BK729.out) hb); have n1_ := Ak (below_step Z49 hb); have n2_ := Ak (hbox); have n3_ := Ak ((by rw [hg]; exact (below_size Z49) : w.heap.size ≤ gb730)); have n4_ := Ak ((by rw [hg]; exact (below_size Z49) : w.heap.size ≤ gb730)); have n5_ := Ak ((by rw [hg]; exact Nat.ne_of_lt (blk_lt (g := gb729) (o := .cells #[.int .i64 a0_0, .int .i64 a0_1] 202 (0, 0)) (by refine bz ?_; exact BK729.out)) : gb729 ≠ gb730)); have n6_ := Ak ((by rw [hg]; exact Nat.ne_of_gt (blk_lt (g := gb729) (o := .cells #[.int .i64 a0_0, .int .i64 a0_1] 202 (0, 0)) (by refine bz ?_; exact BK729.out)) : gb730 ≠ gb729)); clear BK729; clear HB; have BK729 := n0_; have HB := n1_; have BK730 := n2_; have GW730 := n3_; have GE730 := n4_; have NB729_730 := n5_; have NB730_729 := n6_; clear n0_ n1_ n2_ n3_ n4_ n5_ n6_; clear hb hbox hg))
 have n0_ := Ak (blk_drew BK729.out)
 have n1_ := Ak (blk_drew BK730.out)
 have n2_ := Ak (below_drew1 HB.out)
 clear BK729
 clear BK730
 clear HB
 have BK729 := n0_
 have BK730 := n1_
 have HB := n2_
 clear n0_ n1_ n2_
 refine start_ (n := 13) (S := fun w' => w'.cell? ⟨gb729, 0, none⟩ = some (.int .i64 a0_0) ∧ w'.cell? ⟨gb729, 1, none⟩ = some (.int .i64 a0_1) ∧ w'.cell? ⟨gb730, 0, none⟩ = some (.int .i64 a1_0) ∧ w'.cell? ⟨gb730, 1, none⟩ = some (.int .i64 a1_1)) (ds := []) #[false, false, false, false, false, false, false, false, false, false, false, false, false] Z76 rfl rfl ⟨(blk_cell BK729.out 0).trans rfl, (blk_cell BK729.out 1).trans rfl, (blk_cell BK730.out 0).trans rfl, (blk_cell BK730.out 1).trans rfl⟩ (fun hHeld => ?_); refine with_tabW recursive_compare.tab1 recursive_compare.bits1 (fun HT_ HW_ => ?_)
 have HD := Ak (show w.drawn ≤ w7.drew.drawn by have := hD6.out; have := hD7.out; show w.drawn ≤ w7.drawn + 1; omega)
 clear hD6 hD7
 generalize w7.drew = w8 at BK729 BK730 HB HD hHeld ⊢
 refine pure_ (i := 0) (N := some 5) (v := ?_) (a' := ?_) #[true, false, false, false, false, false, false, false, false, false, false, false, false] rfl rfl (any_of HT_.out Z76) (fun _ _ _ h => h) (Or.inl ⟨by rfl, ?_⟩) ?_ ?_
 rotate_left
 ·intro w'
  go_simp
  with_reducible rfl
 rotate_left
 ·simp only [Act.put, List.setIfInBounds_toArray, List.set_cons_zero, List.set_cons_succ, i64_w, i32_w]
  rfl
 refine pure_ (i := 2) (N := some 7) (v := ?_) (a' := ?_) #[true, false, true, false, false, false, false, false, false, false, false, false, false] rfl rfl (any_of HT_.out Z76) (fun _ _ _ h => h) (Or.inl ⟨by rfl, ?_⟩) ?_ ?_
 rotate_left
 ·intro w'
  go_simp
  with_reducible rfl
 rotate_left
 ·simp only [Act.put, List.setIfInBounds_toArray, List.set_cons_zero, List.set_cons_succ, i64_w, i32_w]
  rfl
 refine pure_ (i := 5) (N := some 10) (v := ?_) (a' := ?_) #[true, false, true, false, false, true, false, false, false, false, false, false, false] rfl rfl (any_of HT_.out Z76) (fun _ _ _ h => h) (Or.inl ⟨by rfl, ?_⟩) ?_ ?_
 rotate_left
 ·intro w'
  go_simp
  with_reducible rfl
 rotate_left
 ·simp only [Act.put, List.setIfInBounds_toArray, List.set_cons_zero, List.set_cons_succ, i64_w, i32_w]
  rfl
 refine pure_ (i := 7) (N := some 12) (v := ?_) (a' := ?_) #[true, false, true, false, false, true, false, true, false, false, false, false, false] rfl rfl (any_of HT_.out Z76) (fun _ _ _ h => h) (Or.inl ⟨by rfl, ?_⟩) ?_ ?_
 rotate_left
 ·intro w'
  go_simp
  with_reducible rfl
 rotate_left
 ·simp only [Act.put, List.setIfInBounds_toArray, List.set_cons_zero, List.set_cons_succ, i64_w, i32_w]
  rfl
 refine take_ (i := 1) (N := some 6) (v := ?_) (a' := ?_) #[true, true, true, false, false, true, false, true, false, false, false, false, false] rfl rfl (take_ofW HT_.out HW_.out Z76) (fun _ _ _ h => h) (Or.inl ⟨by rfl, ?_⟩) hHeld ?_ ?_
 rotate_left
 ·rintro w' ⟨s0, s1, s2, s3⟩
  go_simp
  with_reducible rfl
 rotate_left
 ·simp only [Act.put, List.setIfInBounds_toArray, List.set_cons_zero, List.set_cons_succ, i64_w, i32_w]
  rfl
 refine take_ (i := 3) (N := some 8) (v := ?_) (a' := ?_) #[true, true, true, true, false, true, false, true, false, false, false, false, false] rfl rfl (take_ofW HT_.out HW_.out Z76) (fun _ _ _ h => h) (Or.inl ⟨by rfl, ?_⟩) hHeld ?_ ?_
 rotate_left
 ·rintro w' ⟨s0, s1, s2, s3⟩
  go_simp
  with_reducible rfl
 rotate_left
 ·simp only [Act.put, List.setIfInBounds_toArray, List.set_cons_zero, List.set_cons_succ, i64_w, i32_w]
  rfl
 refine take_ (i := 6) (N := some 11) (v := ?_) (a' := ?_) #[true, true, true, true, false, true, true, true, false, false, false, false, false] rfl rfl (take_ofW HT_.out HW_.out Z76) (fun _ _ _ h => h) (Or.inl ⟨by rfl, ?_⟩) hHeld ?_ ?_
 rotate_left
 ·rintro w' ⟨s0, s1, s2, s3⟩
  go_simp
  with_reducible rfl
 rotate_left
 ·simp only [Act.put, List.setIfInBounds_toArray, List.set_cons_zero, List.set_cons_succ, i64_w, i32_w]
  rfl
 refine take_ (i := 8) (N := some 13) (v := ?_) (a' := ?_) #[true, true, true, true, false, true, true, true, true, false, false, false, false] rfl rfl (take_ofW HT_.out HW_.out Z76) (fun _ _ _ h => h) (Or.inl ⟨by rfl, ?_⟩) hHeld ?_ ?_
 rotate_left
 ·rintro w' ⟨s0, s1, s2, s3⟩
  go_simp
  with_reducible rfl
 rotate_left
 ·simp only [Act.put, List.setIfInBounds_toArray, List.set_cons_zero, List.set_cons_succ, i64_w, i32_w]
  rfl
 refine one_ (i := 4) (N := some 9) #[true, true, true, true, true, true, true, true, true, false, false, false, false] rfl rfl (one_of HT_.out Z76) (by decide) (fun K hK => ?_)
 refine goes_ Tryz.func166 Z76 rfl #[.int .i64 a0_0, .int .i64 a1_0] (by rfl) rfl rfl Z4 ?_
 with_reducible refine (cmp_Compare_int.calls a0_0 a1_0 t731 _ A3.out).mono ?_
 rintro e w' ⟨rfl, ⟨nd, rfl⟩⟩
 refine ⟨_, rfl, ?_⟩
 refine hK.out _ _ ⟨(blk_cell BK729.out 0).trans rfl, (blk_cell BK729.out 1).trans rfl, (blk_cell BK730.out 0).trans rfl, (blk_cell BK730.out 1).trans rfl⟩ (fun hHeld => ?_)
 clear hK K
 refine norm_ (a' := ?_) ?_ ?_
 rotate_left
 ·show Act.put _ (some 9) _ = _
  simp only [Act.put, List.setIfInBounds_toArray, List.set_cons_zero, List.set_cons_succ, i64_w, i32_w]
  rfl
 refine one_ (i := 9) (N := some 14) #[true, true, true, true, true, true, true, true, true, true, false, false, false] rfl rfl (one_of HT_.out Z76) (by decide) (fun K hK => ?_)
 refine goes_ Tryz.func166 Z76 rfl #[.int .i64 a0_1, .int .i64 a1_1] (by rfl) rfl rfl Z4 ?_
 with_reducible refine (cmp_Compare_int.calls a0_1 a1_1 t732 _ A4.out).mono ?_
 rintro e w' ⟨rfl, ⟨nd, rfl⟩⟩
 refine ⟨_, rfl, ?_⟩
 refine hK.out _ _ ⟨(blk_cell BK729.out 0).trans rfl, (blk_cell BK729.out 1).trans rfl, (blk_cell BK730.out 0).trans rfl, (blk_cell BK730.out 1).trans rfl⟩ (fun hHeld => ?_)
 clear hK K
 refine norm_ (a' := ?_) ?_ ?_
 rotate_left
 ·show Act.put _ (some 14) _ = _
  simp only [Act.put, List.setIfInBounds_toArray, List.set_cons_zero, List.set_cons_succ, i64_w, i32_w]
  rfl
 refine one_ (i := 10) (N := some 15) #[true, true, true, true, true, true, true, true, true, true, true, false, false] rfl rfl (one_of HT_.out Z76) (by decide) (fun K hK => ?_)
 refine R_lit_stepD (Kd.int .i64) _ 3 ?hg (N := 15) ?hd (xs := ([t731, t732] : List Int)) (inner := [.int .i64 t731, .int .i64 t732]) (ok := fun _ => True) (okp := fun _ => True) ?hr ?hp (fun _ hk => hk) trivial (Below.refl _ _) (Nat.le_refl _) (by simp) ?_; (case hd => rfl); (case hg => rfl); (case hr => exact Z16); (case hp => exact (Reps.one (show Kd.M (Kd.int .i64) _ _ _ t731 [.int .i64 t731] from rfl) (Reps.one (show Kd.M (Kd.int .i64) _ _ _ t732 [.int .i64 t732] from rfl) (Reps.none _ _))))
 intro v734 w9 ho10 hb hg_ hnew_ hD9
 clear hg_ hnew_
 (first | rw [← Ny733.out] at ho10 | (simp only [Int.reduceToNat] at ho10; rw [← Ny733.out] at ho10))
 have n0_ := Ak (Kd.R_lower ho10 (below_size Z42))
 have n1_ := Ak (blk_below (g := gb729) (o := .cells #[.int .i64 a0_0, .int .i64 a0_1] 202 (0, 0)) (by refine bz ?_; exact BK729.out) hb)
 have n2_ := Ak (blk_below (g := gb730) (o := .cells #[.int .i64 a1_0, .int .i64 a1_1] 202 (0, 0)) (by refine bz ?_; exact BK730.out) hb)
 have n3_ := Ak (below_step Z42 hb)
 clear BK729
 clear BK730
 clear HB
 have HO735 := n0_
 have BK729 := n1_
 have BK730 := n2_
 have HB := n3_
 clear n0_ n1_ n2_ n3_
 clear hb ho10
 obtain ⟨Ao11, co11, eo11⟩ := Kd.R_slice HO735.out
 (first | subst eo11 | (injection eo11 with f1_ f2_ f3_; have f4_ := f1_.symm; have f5_ := f3_.symm; clear f1_ f2_ f3_; subst f4_; subst f5_))
 refine hK.out _ _ ⟨(blk_cell BK729.out 0).trans rfl, (blk_cell BK729.out 1).trans rfl, (blk_cell BK730.out 0).trans rfl, (blk_cell BK730.out 1).trans rfl⟩ (fun hHeld => ?_)
 clear hK K
 refine norm_ (a' := ?_) ?_ ?_
 rotate_left
 ·show Act.put _ (some 15) _ = _
  simp only [Act.put, List.setIfInBounds_toArray, List.set_cons_zero, List.set_cons_succ, i64_w, i32_w]
  rfl
 refine one_ (i := 11) (N := some 16) #[true, true, true, true, true, true, true, true, true, true, true, true, false] rfl rfl (one_of HT_.out Z76) (by decide) (fun K hK => ?_)
 refine goes_ Tryz.func168 Z76 rfl #[.slice Ao11 y733.length co11] (by rfl) rfl rfl Z4 ?_
 with_reducible refine (cmp_Or_int.calls k _ _ y733 t736 _ ?side1 ?side2 A5.out).mono ?_
 (case side1 => repeat (first | exact (Kd.R_reads' HO735.out).2.2 | (with_reducible refine Kd.C_alloc ?_ _) | (with_reducible refine Kd.C_drewN ?_ _) | (with_reducible refine Kd.C_drew ?_)))
 (case side2 => exact (Kd.R_reads' HO735.out).2.1)
 rintro e w' ⟨rfl, ⟨nd, rfl⟩⟩
 refine ⟨_, rfl, ?_⟩
 refine hK.out _ _ ⟨(blk_cell BK729.out 0).trans rfl, (blk_cell BK729.out 1).trans rfl, (blk_cell BK730.out 0).trans rfl, (blk_cell BK730.out 1).trans rfl⟩ (fun hHeld => ?_)
 clear hK K
 refine norm_ (a' := ?_) ?_ ?_
 rotate_left
 ·show Act.put _ (some 16) _ = _
  simp only [Act.put, List.setIfInBounds_toArray, List.set_cons_zero, List.set_cons_succ, i64_w, i32_w]
  rfl
 refine pure_ (i := 12) (N := some 4) (v := ?_) (a' := ?_) #[true, true, true, true, true, true, true, true, true, true, true, true, true] rfl rfl (any_of HT_.out Z76) (fun _ _ _ h => h) (Or.inl ⟨by rfl, ?_⟩) ?_ ?_
 rotate_left
 ·intro w'
  go_simp
  with_reducible rfl
 rotate_left
 ·simp only [Act.put, List.setIfInBounds_toArray, List.set_cons_zero, List.set_cons_succ, i64_w, i32_w]
  rfl
 refine done_ (done_of HT_.out Z76) ?_
 try go_wp2
 go_ret
 exact ⟨Z6, Z42, by have := hD9.out; have := HD.out; simp only [World.drewN] at *; omega⟩
end Go.Proofs.YtmmjnbpoilicjaaGreat.PBundleParses
end
