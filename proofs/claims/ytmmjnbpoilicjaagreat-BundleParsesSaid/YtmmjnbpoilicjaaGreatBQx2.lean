/- What functions of the program compute, and that their code computes it (turned out of what the printer of the kit wrote), part 1. -/
import Derived.Test.YtmmjnbpoilicjaaGreatBQa
import Derived.Test.YtmmjnbpoilicjaaGreatBL
import Derived.Test.YtmmjnbpoilicjaaGreatBQx0
set_option linter.unusedVariables false
set_option linter.unusedSimpArgs false
namespace Go.Proofs.YtmmjnbpoilicjaaGreat.Q
open Go.RowKit Go.Proofs.YtmmjnbpoilicjaaGreatW.PrintWords Go.Proofs.YtmmjnbpoilicjaaGreatW.PrintLast Go.Proofs.YtmmjnbpoilicjaaGreatW.PrintMore
attribute [local go_sem] max2_int min2_int max_two min_two max_three min_three max_four min_four   -- for this text's walks alone
def l43_awake.f  : Option (Bool) := some true
set_option maxHeartbeats 8000000 in
set_option maxRecDepth 100000 in
theorem l43_awake.calls  (r : Bool) (w : World) (h : l43_awake.f  = some r) :
  Calls Tryz.prog 4 #[] w fun e w' => e = .returned (.bool r) ∧ Below w.heap.size w w' := by
 obtain rfl := Option.some.inj (show some true = some r from h)
 exact E.awake_calls w
def IsS77 (w0 W : World) (g : Nat) (f0 : List Int) (f1 : Int) (f2 : Bool) : Prop := ∃ A0 c0, W.heap[g]? = some (.cells #[.slice A0 f0.length c0, .int .i64 f1, .bool f2] 77 (0, 0)) ∧ (w0.heap.size ≤ g ∧ f0.length ≤ c0) ∧ Kd.C (Kd.int .u8) w0 A0 f0.length f0
theorem IsS77.grown {w0 W : World} {g : Nat} {f0 : List Int} {f1 : Int} {f2 : Bool} {W1 : World} {row : Option Nat} (h : IsS77 w0 W g f0 f1 f2) (hw : W.grownBy W1 row) (hne : some g ≠ row) : IsS77 w0 W1 g f0 f1 f2 := by
 obtain ⟨A0, c0, hb, hg, hr0⟩ := h
 exact ⟨A0, c0, blk_grown hb hw hne, hg, hr0⟩
theorem IsS77.below {w0 W : World} {g : Nat} {f0 : List Int} {f1 : Int} {f2 : Bool} {W1 : World} (h : IsS77 w0 W g f0 f1 f2) (hw : Below W.heap.size W W1) : IsS77 w0 W1 g f0 f1 f2 := h.grown (grown_of_below hw none) (by simp)
theorem IsS77.drewN {w0 W : World} {g : Nat} {f0 : List Int} {f1 : Int} {f2 : Bool} (h : IsS77 w0 W g f0 f1 f2) (m : Nat) : IsS77 w0 (W.drewN m) g f0 f1 f2 := h
theorem IsS77.apart {w0 W : World} {g : Nat} {f0 : List Int} {f1 : Int} {f2 : Bool} {α : Type} {d : Kd α} {e : Nat} {base : Nat} {ok : Nat → Prop} {v : Value} {xs : List α} (h : IsS77 w0 W g f0 f1 f2) (ho : d.R e W base ok v xs) (ht : ∀ q, q ∈ e :: d.E → q ≠ 77) : d.R e W base (fun k => ok k ∧ k ≠ g) v xs := by
 obtain ⟨A0, c0, hb, hg, hr0⟩ := h
 exact Kd.R_types ho hb ht
theorem IsS77.own_ne {w0 W : World} {g : Nat} {f0 : List Int} {f1 : Int} {f2 : Bool} {α : Type} {d : Kd α} {e : Nat} {base : Nat} {ok : Nat → Prop} {v : Value} {xs : List α} (h : IsS77 w0 W g f0 f1 f2) (ho : d.R e W base ok v xs) (ht : e ≠ 77) : some g ≠ v.ownBlock := by
 obtain ⟨A0, c0, hb, hg, hr0⟩ := h
 exact Kd.R_ne ho hb ht
theorem IsS77.apartS {w0 W : World} {g : Nat} {f0 : List Int} {f1 : Int} {f2 : Bool} {α : Type} {d : Kd α} {e : Nat} {base : Nat} {ok : Nat → Prop} {v : Value} {xs : List α} (h : IsS77 w0 W g f0 f1 f2) (ho : d.S e W base ok v xs) (ht : ∀ q, q ∈ e :: d.E → q ≠ 77) : d.S e W base (fun k => ok k ∧ k ≠ g) v xs := by
 obtain ⟨A0, c0, hb, hg, hr0⟩ := h
 exact Kd.S_types ho hb ht
theorem IsS77.own_neS {w0 W : World} {g : Nat} {f0 : List Int} {f1 : Int} {f2 : Bool} {α : Type} {d : Kd α} {e : Nat} {base : Nat} {ok : Nat → Prop} {v : Value} {xs : List α} (h : IsS77 w0 W g f0 f1 f2) (ho : d.S e W base ok v xs) (ht : e ≠ 77) : some g ≠ v.ownBlock := by
 obtain ⟨A0, c0, hb, hg, hr0⟩ := h
 exact Kd.S_ne ho hb ht
theorem IsS77.lt {w0 W : World} {g : Nat} {f0 : List Int} {f1 : Int} {f2 : Bool} (h : IsS77 w0 W g f0 f1 f2) : g < W.heap.size := by
 obtain ⟨A0, c0, hb, hg, hr0⟩ := h
 exact blk_lt hb
theorem IsS77.ge {w0 W : World} {g : Nat} {f0 : List Int} {f1 : Int} {f2 : Bool} (h : IsS77 w0 W g f0 f1 f2) : w0.heap.size ≤ g := by
 obtain ⟨A0, c0, hb, hg, hr0⟩ := h
 exact hg.1
theorem IsS77.far {w0 W : World} {g : Nat} {f0 : List Int} {f1 : Int} {f2 : Bool} {p : Addr} (h : IsS77 w0 W g f0 f1 f2) (hne : g ≠ p.block) (u : Value) : IsS77 w0 (W.setCell p u) g f0 f1 f2 := by
 obtain ⟨A0, c0, hb, hg, hr0⟩ := h
 exact ⟨A0, c0, blk_far hb hne u, hg, hr0⟩
theorem cellS77_0 {W : World} {g : Nat} {A0 : Option Addr} {c0 : Nat} {f0 : List Int} {f1 : Int} {f2 : Bool} (h : W.heap[g]? = some (.cells #[.slice A0 f0.length c0, .int .i64 f1, .bool f2] 77 (0, 0))) : W.cell? ⟨g, 0, none⟩ = some (.slice A0 f0.length c0) := (blk_cell h 0).trans rfl
theorem cellS77_1 {W : World} {g : Nat} {A0 : Option Addr} {c0 : Nat} {f0 : List Int} {f1 : Int} {f2 : Bool} (h : W.heap[g]? = some (.cells #[.slice A0 f0.length c0, .int .i64 f1, .bool f2] 77 (0, 0))) : W.cell? ⟨g, 1, none⟩ = some (.int .i64 f1) := (blk_cell h 1).trans rfl
theorem IsS77.set_1 {w0 W : World} {g : Nat} {f0 : List Int} {f1 : Int} {f2 : Bool} (h : IsS77 w0 W g f0 f1 f2) (x : Int) : IsS77 w0 (W.setCell ⟨g, 1, none⟩ (.int .i64 x)) g f0 x f2 := by
 obtain ⟨A0, c0, hb, hg, hr0⟩ := h
 exact ⟨A0, c0, by simpa using blk_set hb 1 (.int .i64 x), hg, hr0⟩
theorem cellS77_2 {W : World} {g : Nat} {A0 : Option Addr} {c0 : Nat} {f0 : List Int} {f1 : Int} {f2 : Bool} (h : W.heap[g]? = some (.cells #[.slice A0 f0.length c0, .int .i64 f1, .bool f2] 77 (0, 0))) : W.cell? ⟨g, 2, none⟩ = some (.bool f2) := (blk_cell h 2).trans rfl
theorem IsS77.set_2 {w0 W : World} {g : Nat} {f0 : List Int} {f1 : Int} {f2 : Bool} (h : IsS77 w0 W g f0 f1 f2) (x : Bool) : IsS77 w0 (W.setCell ⟨g, 2, none⟩ (.bool x)) g f0 f1 x := by
 obtain ⟨A0, c0, hb, hg, hr0⟩ := h
 exact ⟨A0, c0, by simpa using blk_set hb 2 (.bool x), hg, hr0⟩
def wire_from.f (l0 : List Int) (a1 : Int) : Option (List Int × Int × Bool) := if a1 < 0 then (some (l0, a1, true)) else (some (l0, a1, decide (a1 > (l0.length : Int))))
set_option maxHeartbeats 8000000 in
set_option maxRecDepth 100000 in
theorem wire_from.calls (A0 : Option Addr) (c0 : Nat) (l0 : List Int) (a1 : Int) (r1 : List Int) (r2 : Int) (r3 : Bool) (w0 w : World) (hB : Below w0.heap.size w0 w) (hr0 : Kd.C (Kd.int .u8) w0 A0 l0.length l0) (hc0 : l0.length ≤ c0) (h : wire_from.f l0 a1 = some (r1, r2, r3)) :
  Calls Tryz.prog 32 #[.slice A0 l0.length c0, .int .i64 a1] w fun e w' => ∃ g_ : Nat, e = .returned (.pointer (some ⟨g_, 0, none⟩)) ∧ IsS77 w0 w' g_ r1 r2 r3 ∧ Below w0.heap.size w0 w' ∧ Below w.heap.size w w' := by
 have hu77 := Tryz.underlying77
 have HR0 := Ak hr0
 have HC0 := Ak hc0
 clear hr0 hc0
 have HBW := Ak (Below.refl w.heap.size w)
 have HW0 := Ak hB.size
 have HB := Ak hB
 clear hB
 have H : (if a1 < 0 then (some (l0, a1, true)) else (some (l0, a1, decide (a1 > (l0.length : Int))))) = some (r1, r2, r3) := h
 clear h
 by_cases c3 : a1 < 0
 ·rw [if_pos c3] at H
  have c3b0 : decide (a1 < 0) = true := decide_eq_true c3
  clear c3
  simp only [Option.some.injEq, Prod.mk.injEq] at H
  obtain ⟨rfl, rfl, rfl⟩ := H
  go_enter Tryz.func32, Tryz.ntmps32
  go_wp2_with (first | ((with_reducible refine gate_dst (N := 16) rfl ?_); (try (refine gate_guard (by rfl) ?_; dsimp only)); refine box_event ?hg (N := 16) ?hd (cs := #[.slice A0 l0.length c0, .int .i64 a1, .bool true]) (t := 77) ?hr ?_; (case hd => rfl); (case hg => rfl); (case hr => exact Z16); intro gb102 hg w4 hbox hb; have n0_ := Ak (below_step HBW.out hb); have n1_ := Ak (below_step Z1 hb); have n2_ := Ak (hbox); have n3_ := Ak ((Z67 : w.heap.size ≤ gb102)); have n4_ := Ak ((Nat.le_trans HW0.out (Z67 : w.heap.size ≤ gb102) : w0.heap.size ≤ gb102)); clear HBW; clear HB; have HBW := n0_; have HB := n1_; have BK102 := n2_; have GW102 := n3_; have GE102 := n4_; clear n0_ n1_ n2_ n3_ n4_; clear hb hbox hg))
  go_ret
  exact ⟨_, rfl, (show IsS77 w0 _ gb102 l0 a1 true from ⟨_, _, by refine bz ?_; exact BK102.out, ⟨GE102.out, HC0.out⟩, HR0.out⟩), by repeat (first | (with_reducible first | exact HB.out | apply below_alloc | apply pw_below_drewN | apply below_drew1 | refine below_set ?_ GE102.out) | exact HB.out), by repeat (first | (with_reducible first | exact HBW.out | apply below_alloc | apply pw_below_drewN | apply below_drew1 | refine below_set ?_ GW102.out) | exact HBW.out)⟩
 ·rw [if_neg c3] at H
  have c3b0 : decide (a1 < 0) = false := decide_eq_false c3
  clear c3
  simp only [Option.some.injEq, Prod.mk.injEq] at H
  obtain ⟨rfl, rfl, rfl⟩ := H
  go_enter Tryz.func32, Tryz.ntmps32
  go_wp2_with (first | ((with_reducible refine gate_dst (N := 16) rfl ?_); (try (refine gate_guard (by rfl) ?_; dsimp only)); refine box_event ?hg (N := 16) ?hd (cs := #[.slice A0 l0.length c0, .int .i64 a1, .bool (decide (a1 > (l0.length : Int)))]) (t := 77) ?hr ?_; (case hd => rfl); (case hg => rfl); (case hr => exact Z16); intro gb103 hg w5 hbox hb; have n0_ := Ak (below_step HBW.out hb); have n1_ := Ak (below_step Z1 hb); have n2_ := Ak (hbox); have n3_ := Ak ((Z67 : w.heap.size ≤ gb103)); have n4_ := Ak ((Nat.le_trans HW0.out (Z67 : w.heap.size ≤ gb103) : w0.heap.size ≤ gb103)); clear HBW; clear HB; have HBW := n0_; have HB := n1_; have BK103 := n2_; have GW103 := n3_; have GE103 := n4_; clear n0_ n1_ n2_ n3_ n4_; clear hb hbox hg))
  go_ret
  exact ⟨_, rfl, (show IsS77 w0 _ gb103 l0 a1 (decide (a1 > (l0.length : Int))) from ⟨_, _, by refine bz ?_; exact BK103.out, ⟨GE103.out, HC0.out⟩, HR0.out⟩), by repeat (first | (with_reducible first | exact HB.out | apply below_alloc | apply pw_below_drewN | apply below_drew1 | refine below_set ?_ GE103.out) | exact HB.out), by repeat (first | (with_reducible first | exact HBW.out | apply below_alloc | apply pw_below_drewN | apply below_drew1 | refine below_set ?_ GW103.out) | exact HBW.out)⟩
def wr_octet.f (s0_0 : List Int) (s0_1 : Int) (s0_2 : Bool) : Option (Int × Int × Bool) := if s0_2 = true then (some (0, s0_1, true)) else (if s0_1 ≥ (s0_0.length : Int) then (some (0, s0_1, true)) else (if 0 ≤ (wrap64 ((wrap64 (s0_1 + 1)) - 1)) then (if (wrap64 ((wrap64 (s0_1 + 1)) - 1)) < (s0_0.length : Int) then (some (rd s0_0 (wrap64 ((wrap64 (s0_1 + 1)) - 1)), wrap64 (s0_1 + 1), s0_2)) else (none)) else (none)))
set_option maxHeartbeats 8000000 in
set_option maxRecDepth 100000 in
theorem wr_octet.calls (g : Nat) (s0_0 : List Int) (s0_1 : Int) (s0_2 : Bool) (r1 : Int) (r2 : Int) (r3 : Bool) (w0 w : World) (hI : IsS77 w0 w g s0_0 s0_1 s0_2) (hB : Below w0.heap.size w0 w) (h : wr_octet.f s0_0 s0_1 s0_2 = some (r1, r2, r3)) :
  Calls Tryz.prog 67 #[.pointer (some ⟨g, 0, none⟩)] w fun e w' => e = .returned (.int .u8 r1) ∧ IsS77 w0 w' g s0_0 r2 r3 ∧ Below w0.heap.size w0 w' ∧ KeepBut w w' g none := by
 have HI0 := Ak hI
 have HK := Ak (KeepBut.refl w g none)
 have HL := Ak hB.size
 clear hI
 have HW0 := Ak hB.size
 have HB := Ak hB
 clear hB
 have H : (if s0_2 = true then (some (0, s0_1, true)) else (if s0_1 ≥ (s0_0.length : Int) then (some (0, s0_1, true)) else (if 0 ≤ (wrap64 ((wrap64 (s0_1 + 1)) - 1)) then (if (wrap64 ((wrap64 (s0_1 + 1)) - 1)) < (s0_0.length : Int) then (some (rd s0_0 (wrap64 ((wrap64 (s0_1 + 1)) - 1)), wrap64 (s0_1 + 1), s0_2)) else (none)) else (none)))) = some (r1, r2, r3) := h
 clear h
 by_cases c2 : s0_2 = true
 ·subst c2
  have H1 : (some (0, s0_1, true)) = some (r1, r2, r3) := by rw [if_pos rfl] at H; exact H
  clear H
  have H := H1
  clear H1
  simp only [Option.some.injEq, Prod.mk.injEq] at H
  obtain ⟨rfl, rfl, rfl⟩ := H
  obtain ⟨ASz3_0, cSz3_0, HGz3, hgz3, HSz3_0⟩ := HI0.out
  have hcz3_0 := cellS77_0 HGz3
  have hcz3_1 := cellS77_1 HGz3
  have hcz3_2 := cellS77_2 HGz3
  have hfz3_1 := bfz HGz3 1
  have hfz3_2 := bfz HGz3 2
  clear HGz3 hgz3
  go_enter Tryz.func67, Tryz.ntmps67
  go_wp2
  repeat (go_quiet (fail); try go_wp2)
  go_ret
  exact ⟨Z6, Z3, Z2, Z0⟩
 ·replace c2 := Bool.eq_false_iff.mpr c2
  subst c2
  have H1 : (if s0_1 ≥ (s0_0.length : Int) then (some (0, s0_1, true)) else (if 0 ≤ (wrap64 ((wrap64 (s0_1 + 1)) - 1)) then (if (wrap64 ((wrap64 (s0_1 + 1)) - 1)) < (s0_0.length : Int) then (some (rd s0_0 (wrap64 ((wrap64 (s0_1 + 1)) - 1)), wrap64 (s0_1 + 1), false)) else (none)) else (none))) = some (r1, r2, r3) := by rw [if_neg (show ¬ (false = true) by decide)] at H; exact H
  clear H
  have H := H1
  clear H1
  by_cases c4 : s0_1 ≥ (s0_0.length : Int)
  ·rw [if_pos c4] at H
   have c4b0 : decide ((s0_0.length : Int) ≤ s0_1) = true := decide_eq_true c4
   clear c4
   simp only [Option.some.injEq, Prod.mk.injEq] at H
   obtain ⟨rfl, rfl, rfl⟩ := H
   obtain ⟨ASz5_0, cSz5_0, HGz5, hgz5, HSz5_0⟩ := HI0.out
   have hcz5_0 := cellS77_0 HGz5
   have hcz5_1 := cellS77_1 HGz5
   have hcz5_2 := cellS77_2 HGz5
   have hfz5_1 := bfz HGz5 1
   have hfz5_2 := bfz HGz5 2
   clear HGz5 hgz5
   go_enter Tryz.func67, Tryz.ntmps67
   go_wp2
   repeat (go_quiet (fail); try go_wp2)
   go_ret
   exact ⟨Z6, Z3, Z2, Z0⟩
  ·rw [if_neg c4] at H
   have c4b0 : decide ((s0_0.length : Int) ≤ s0_1) = false := decide_eq_false c4
   clear c4
   obtain ⟨ji6, hji6⟩ : ∃ j_ : Int, (wrap64 ((wrap64 (s0_1 + 1)) - 1)) = j_ := ⟨_, rfl⟩
   replace H : (if 0 ≤ (ji6) then (if (ji6) < (s0_0.length : Int) then (some (rd s0_0 (ji6), wrap64 (s0_1 + 1), false)) else (none)) else (none)) = some (r1, r2, r3) := by first | (rw [hji6] at H; exact H) | (simp only [hji6] at H ⊢; exact H)
   have hji6w : (IntKind.i64.wrap ((wrap64 (s0_1 + 1)) - 1)) = ji6 := (i64_w _).trans hji6
   by_cases c7 : 0 ≤ (ji6)
   ·rw [if_pos c7] at H
    have c7b0 : decide (0 ≤ (ji6)) = true := decide_eq_true c7
    clear c7
    by_cases c8 : (ji6) < (s0_0.length : Int)
    ·rw [if_pos c8] at H
     have c8b0 : decide ((ji6) < (s0_0.length : Int)) = true := decide_eq_true c8
     clear c8
     simp only [Option.some.injEq, Prod.mk.injEq] at H
     obtain ⟨rfl, rfl, rfl⟩ := H
     obtain ⟨ASz9_0, cSz9_0, HGz9, hgz9, HSz9_0⟩ := HI0.out
     have hcz9_0 := cellS77_0 HGz9
     have hcz9_1 := cellS77_1 HGz9
     have hcz9_2 := cellS77_2 HGz9
     have hfz9_1 := bfz HGz9 1
     have hfz9_2 := bfz HGz9 2
     clear HGz9 hgz9
     have p104 : 0 ≤ ((ji6) : Int) := of_decide_eq_true Z20
     have q104 : (ji6) < (s0_0.length : Int) := of_decide_eq_true Z20
     obtain ⟨ad104, e104, hx104_0⟩ := Kd.at_int HSz9_0 (ji6) p104 q104
     cases e104
     have hn104_0 : ad104.block ≠ g := Nat.ne_of_lt (Nat.lt_of_lt_of_le (by have := World.block_lt_of_cell? _ _ hx104_0; first | rwa [add_block] at this | exact this) (IsS77.ge HI0.out))
     replace hx104_0 := pw_cell_below HB.out hx104_0
     replace hx104_0 := (cell_far (p := ⟨g, 1, none⟩) (by first | (rw [add_block]; exact hn104_0) | (show (Addr.add _ _).block ≠ _; rw [add_block]; exact hn104_0) | exact hn104_0) (.int .i64 (wrap64 (s0_1 + 1)))).trans hx104_0
     (try have hy104_0 := fun (n_ : Nat) => (show (((w.drewN n_).setCell ⟨g, 1, none⟩ (.int .i64 (wrap64 (s0_1 + 1))))).cell? _ = some _ from hx104_0))
     clear hn104_0
     replace p104 := eq_true p104
     replace q104 := eq_true q104
     go_enter Tryz.func67, Tryz.ntmps67
     go_wp2
     repeat (go_quiet (fail); try go_wp2)
     go_ret
     exact ⟨by first | rfl | (simp [errW_none, errW_some] <;> rfl) | (simp only [← hji6]; first | rfl | (simp [errW_none, errW_some] <;> rfl)) | (simp [*, errW_none, errW_some] <;> rfl), Z3, Z2, Z0⟩
    ·rw [if_neg c8] at H
     exact absurd H (by simp)
   ·rw [if_neg c7] at H
    exact absurd H (by simp)
mutual
def wr_number.l0 : Nat → Int → Int → List Int → Int → Bool → Option (Int × Int × Bool)
 | 0, _, _, _, _, _ => none
 | k + 1, x3, x4, x1000, x1001, x1002 => (wr_octet.f x1000 x1001 x1002).bind fun bt105 => (if x4 = 63 then (if bt105.1 > 1 then (wr_number.j1 k x3 x4 bt105.1 true x1000 bt105.2.1 bt105.2.2) else (if x4 > 0 then (wr_number.j1 k x3 x4 bt105.1 (bt105.1 == 0) x1000 bt105.2.1 bt105.2.2) else (wr_number.j1 k x3 x4 bt105.1 false x1000 bt105.2.1 bt105.2.2))) else (if x4 > 0 then (wr_number.j1 k x3 x4 bt105.1 (bt105.1 == 0) x1000 bt105.2.1 bt105.2.2) else (wr_number.j1 k x3 x4 bt105.1 false x1000 bt105.2.1 bt105.2.2)))
def wr_number.j1 : Nat → Int → Int → Int → Bool → List Int → Int → Bool → Option (Int × Int × Bool)
 | 0, _, _, _, _, _, _, _ => none
 | k + 1, x3, x4, x5, x24, x1000, x1001, x1002 => if x24 = true then (wr_number.j2 k x3 x4 x5 x1000 x1001 true) else (wr_number.j2 k x3 x4 x5 x1000 x1001 x1002)
def wr_number.j2 : Nat → Int → Int → Int → List Int → Int → Bool → Option (Int × Int × Bool)
 | 0, _, _, _, _, _, _ => none
 | k + 1, x3, x4, x5, x1000, x1001, x1002 => if x1002 = true then (some (0, x1001, x1002)) else (if 0 ≤ x4 then (if x5 < 128 then (if (Go.bits .and .u64 (Go.bits .or .u64 x3 (shl .u64 (IntKind.u64.wrap (Go.bits .and .u8 x5 127)) x4)) 1) = 1 then (some (Go.bits .xor .i64 (-1) (wrap64 ((Go.bits .or .u64 x3 (shl .u64 (IntKind.u64.wrap (Go.bits .and .u8 x5 127)) x4)) / 2)), x1001, x1002)) else (some (wrap64 ((Go.bits .or .u64 x3 (shl .u64 (IntKind.u64.wrap (Go.bits .and .u8 x5 127)) x4)) / 2), x1001, x1002))) else (wr_number.l0 k (Go.bits .or .u64 x3 (shl .u64 (IntKind.u64.wrap (Go.bits .and .u8 x5 127)) x4)) (wrap64 (x4 + 7)) x1000 x1001 x1002)) else (none))
end
def wr_number.f (k : Nat) (s0_0 : List Int) (s0_1 : Int) (s0_2 : Bool) : Option (Int × Int × Bool) := wr_number.l0 k 0 0 s0_0 s0_1 s0_2
set_option maxHeartbeats 8000000 in
set_option maxRecDepth 100000 in
theorem wr_number.calls (k : Nat) (g : Nat) (s0_0 : List Int) (s0_1 : Int) (s0_2 : Bool) (r1 : Int) (r2 : Int) (r3 : Bool) (w0 w : World) (hI : IsS77 w0 w g s0_0 s0_1 s0_2) (hB : Below w0.heap.size w0 w) (h : wr_number.f k s0_0 s0_1 s0_2 = some (r1, r2, r3)) :
  Calls Tryz.prog 33 #[.pointer (some ⟨g, 0, none⟩)] w fun e w' => e = .returned (.int .i64 r1) ∧ IsS77 w0 w' g s0_0 r2 r3 ∧ Below w0.heap.size w0 w' ∧ KeepBut w w' g none := by
 have HI0 := Ak hI
 have HK := Ak (KeepBut.refl w g none)
 have HL := Ak hB.size
 clear hI
 have HW0 := Ak hB.size
 have HB := Ak hB
 clear hB
 have H : (wr_number.l0 k 0 0 s0_0 s0_1 s0_2) = some (r1, r2, r3) := h
 clear h
 have H' := Ak H
 clear H
 go_enter Tryz.func33, Tryz.ntmps33
 go_wp2
 go_loopg [3, 4] k (fun kq v3 v4 w' => ∃ (x3_1 : Int) (x4_1 : Int) (x1001_1 : Int) (x1002_1 : Bool), v3 = .int .u64 x3_1 ∧ v4 = .int .i64 x4_1 ∧ Aside0 (wr_number.l0 kq x3_1 x4_1 s0_0 x1001_1 x1002_1 = some (r1, r2, r3)) ∧ Aside0 (kq ≤ k) ∧ Aside0 (IsS77 w0 w' g s0_0 x1001_1 x1002_1) ∧ Aside0 (KeepBut w w' g none) ∧ Aside0 (Below w0.heap.size w0 w'))
 case atStart => exact ⟨(0), (0), (s0_1), (s0_2), Z11, Z11, H', ⟨Nat.le_refl _⟩, ⟨Z3⟩, ⟨Z0⟩, ⟨Z2⟩⟩
 case round =>
  clear H'
  obtain ⟨x3_1, x4_1, x1001_1, x1002_1, rfl, rfl, HA, HK1, HI0, HK, HB⟩ := hrel
  cases gk with
  | zero => exact absurd HA.out (by simp [wr_number.l0])
  | succ k1 =>
   have H := HA.out
   clear HA
   simp only [wr_number.l0] at H
   replace H := Option.bind_eq_some_iff.mp H
   obtain ⟨⟨t105, t106, t107⟩, A20, H⟩ := H
   replace H : (if x4_1 = 63 then (if t105 > 1 then (wr_number.j1 k1 x3_1 x4_1 t105 true s0_0 t106 t107) else (if x4_1 > 0 then (wr_number.j1 k1 x3_1 x4_1 t105 (t105 == 0) s0_0 t106 t107) else (wr_number.j1 k1 x3_1 x4_1 t105 false s0_0 t106 t107))) else (if x4_1 > 0 then (wr_number.j1 k1 x3_1 x4_1 t105 (t105 == 0) s0_0 t106 t107) else (wr_number.j1 k1 x3_1 x4_1 t105 false s0_0 t106 t107))) = some (r1, r2, r3) := H
   have A2 := Ak A20
   clear A20
   have HC3 := Ak H
   clear H
   go_upto_region 5 with (first | ((with_reducible refine gate_callee (f := 67) rfl ?_); refine goesL_ (some 10) rfl rfl Tryz.func67 Z76 rfl #[.pointer (some ⟨g, 0, none⟩)] rfl Z4 ?_; (with_reducible refine (wr_octet.calls g s0_0 x1001_1 x1002_1 t105 t106 t107 w0 _ ?side1 ?side2 A2.out).mono ?_); (case side1 => exact Z3); (case side2 => exact Z2); rintro e w4 ⟨rfl, hi, hb, hk⟩; refine ⟨_, rfl, ?_⟩; have n0_ := Ak (KeepBut.trans Z0 hk (.inl rfl)); have n1_ := Ak (hb); have n2_ := Ak (hi); clear HK; clear HB; clear HI0; have HK := n0_; have HB := n1_; have HI0 := n2_; clear n0_ n1_ n2_; (try clear hb); (try clear hb2); (try clear hk); (try clear hi)))
   (try simp only [Act.put, List.setIfInBounds_toArray, List.set_cons_zero, List.set_cons_succ])
   go_cut [24] (fun v24 wc => ∃ (kq : Nat) (x24_2 : Bool), v24 = .bool x24_2 ∧ Aside0 (wr_number.j1 kq x3_1 x4_1 t105 x24_2 s0_0 t106 t107 = some (r1, r2, r3)) ∧ Aside0 (kq ≤ k1) ∧ Aside0 (IsS77 w0 wc g s0_0 t106 t107) ∧ Aside0 (KeepBut w wc g none) ∧ Aside0 (Below w0.heap.size w0 wc))
   case first =>
    have H := HC3.out
    clear HC3
    by_cases c5 : x4_1 = 63
    ·rw [if_pos c5] at H
     have c5b0 : (x4_1 == 63) = true := beq_iff_eq.mpr c5
     have c5b1 : (x4_1 != 63) = false := bne_eq_false_iff_eq.mpr c5
     clear c5
     (first | rw [c5b0] | (simp only [i64_w, i32_w]; rw [c5b0]) | skip)
     by_cases c6 : t105 > 1
     ·rw [if_pos c6] at H
      have c6b0 : decide (1 < t105) = true := decide_eq_true c6
      clear c6
      have H' := Ak H
      clear H
      go_wp2
      go_meet
      case rel => exact ⟨_, (true), Z11, H', ⟨by have := HK1.out; first | omega | exact Nat.le_refl _⟩, ⟨Z3⟩, ⟨Z0⟩, ⟨Z2⟩⟩
     ·rw [if_neg c6] at H
      have c6b0 : decide (1 < t105) = false := decide_eq_false c6
      clear c6
      by_cases c7 : x4_1 > 0
      ·rw [if_pos c7] at H
       have c7b0 : decide (0 < x4_1) = true := decide_eq_true c7
       clear c7
       have H' := Ak H
       clear H
       go_wp2
       go_meet
       case rel => exact ⟨_, ((t105 == 0)), Z11, H', ⟨by have := HK1.out; first | omega | exact Nat.le_refl _⟩, ⟨Z3⟩, ⟨Z0⟩, ⟨Z2⟩⟩
      ·rw [if_neg c7] at H
       have c7b0 : decide (0 < x4_1) = false := decide_eq_false c7
       clear c7
       have H' := Ak H
       clear H
       go_wp2
       go_meet
       case rel => exact ⟨_, (false), Z11, H', ⟨by have := HK1.out; first | omega | exact Nat.le_refl _⟩, ⟨Z3⟩, ⟨Z0⟩, ⟨Z2⟩⟩
    ·rw [if_neg c5] at H
     have c5b0 : (x4_1 == 63) = false := beq_eq_false_iff_ne.mpr c5
     have c5b1 : (x4_1 != 63) = true := bne_iff_ne.mpr c5
     (first | rw [c5b0] | (simp only [i64_w, i32_w]; rw [c5b0]) | skip)
     by_cases c8 : x4_1 > 0
     ·rw [if_pos c8] at H
      have c8b0 : decide (0 < x4_1) = true := decide_eq_true c8
      clear c8
      have H' := Ak H
      clear H
      go_wp2
      go_meet
      case rel => exact ⟨_, ((t105 == 0)), Z11, H', ⟨by have := HK1.out; first | omega | exact Nat.le_refl _⟩, ⟨Z3⟩, ⟨Z0⟩, ⟨Z2⟩⟩
     ·rw [if_neg c8] at H
      have c8b0 : decide (0 < x4_1) = false := decide_eq_false c8
      clear c8
      have H' := Ak H
      clear H
      go_wp2
      go_meet
      case rel => exact ⟨_, (false), Z11, H', ⟨by have := HK1.out; first | omega | exact Nat.le_refl _⟩, ⟨Z3⟩, ⟨Z0⟩, ⟨Z2⟩⟩
   case rest =>
    clear HC3
    try clear p2
    try clear c3
    try clear c5
    try clear c5b0
    try clear c5b1
    try clear c6
    try clear c6b0
    try clear c7
    try clear c7b0
    try clear c8
    try clear c8b0
    obtain ⟨kq, x24_2, rfl, HA, HJ2, HI0, HK, HB⟩ := hcut
    cases kq with
    | zero => exact absurd HA.out (by simp [wr_number.j1])
    | succ kj2 =>
     have H := HA.out
     clear HA
     simp only [wr_number.j1] at H
     have HC9 := Ak H
     clear H
     go_upto_if 24 with (fail)
     go_cut [] (fun wc => ∃ (kq : Nat) (x1002_8 : Bool), Aside0 (wr_number.j2 kq x3_1 x4_1 t105 s0_0 t106 x1002_8 = some (r1, r2, r3)) ∧ Aside0 (kq ≤ kj2) ∧ Aside0 (IsS77 w0 wc g s0_0 t106 x1002_8) ∧ Aside0 (KeepBut w wc g none) ∧ Aside0 (Below w0.heap.size w0 wc))
     case first =>
      have H := HC9.out
      clear HC9
      by_cases c10 : x24_2 = true
      ·subst c10
       have H1 : (wr_number.j2 kj2 x3_1 x4_1 t105 s0_0 t106 true) = some (r1, r2, r3) := by rw [if_pos rfl] at H; exact H
       clear H
       have H := H1
       clear H1
       have H' := Ak H
       clear H
       obtain ⟨ASz11_0, cSz11_0, HGz11, hgz11, HSz11_0⟩ := HI0.out
       have hcz11_0 := cellS77_0 HGz11
       have hcz11_1 := cellS77_1 HGz11
       have hcz11_2 := cellS77_2 HGz11
       have hfz11_1 := bfz HGz11 1
       have hfz11_2 := bfz HGz11 2
       clear HGz11 hgz11
       go_wp2
       go_meet
       case rel => exact ⟨_, (true), H', ⟨by have := HK1.out; have := HJ2.out; first | omega | exact Nat.le_refl _⟩, ⟨Z3⟩, ⟨Z0⟩, ⟨Z2⟩⟩
      ·replace c10 := Bool.eq_false_iff.mpr c10
       subst c10
       have H1 : (wr_number.j2 kj2 x3_1 x4_1 t105 s0_0 t106 t107) = some (r1, r2, r3) := by rw [if_neg (show ¬ (false = true) by decide)] at H; exact H
       clear H
       have H := H1
       clear H1
       have H' := Ak H
       clear H
       go_wp2
       go_meet
       case rel => exact ⟨_, (t107), H', ⟨by have := HK1.out; have := HJ2.out; first | omega | exact Nat.le_refl _⟩, ⟨Z3⟩, ⟨Z0⟩, ⟨Z2⟩⟩
     case rest =>
      clear HC9
      try clear c1
      try clear p2
      try clear c3
      try clear c5
      try clear c5b0
      try clear c5b1
      try clear c6
      try clear c6b0
      try clear c7
      try clear c7b0
      try clear c8
      try clear c8b0
      try clear c10
      try clear hcz11_0
      try clear hcz11_1
      try clear hcz11_2
      try clear hfz11_1
      try clear hfz11_2
      try clear p2
      obtain ⟨kq, x1002_8, HA, HJ8, HI0, HK, HB⟩ := hcut
      cases kq with
      | zero => exact absurd HA.out (by simp [wr_number.j2])
      | succ kj8 =>
       have H := HA.out
       clear HA
       simp only [wr_number.j2] at H
       by_cases c12 : x1002_8 = true
       ·subst c12
        have H1 : (some (0, t106, true)) = some (r1, r2, r3) := by rw [if_pos rfl] at H; exact H
        clear H
        have H := H1
        clear H1
        simp only [Option.some.injEq, Prod.mk.injEq] at H
        obtain ⟨rfl, rfl, rfl⟩ := H
        obtain ⟨ASz13_0, cSz13_0, HGz13, hgz13, HSz13_0⟩ := HI0.out
        have hcz13_0 := cellS77_0 HGz13
        have hcz13_1 := cellS77_1 HGz13
        have hcz13_2 := cellS77_2 HGz13
        have hfz13_1 := bfz HGz13 1
        have hfz13_2 := bfz HGz13 2
        clear HGz13 hgz13
        go_wp2
        go_ret
        exact ⟨Z6, Z3, Z2, Z0⟩
       ·replace c12 := Bool.eq_false_iff.mpr c12
        subst c12
        have H1 : (if 0 ≤ x4_1 then (if t105 < 128 then (if (Go.bits .and .u64 (Go.bits .or .u64 x3_1 (shl .u64 (IntKind.u64.wrap (Go.bits .and .u8 t105 127)) x4_1)) 1) = 1 then (some (Go.bits .xor .i64 (-1) (wrap64 ((Go.bits .or .u64 x3_1 (shl .u64 (IntKind.u64.wrap (Go.bits .and .u8 t105 127)) x4_1)) / 2)), t106, false)) else (some (wrap64 ((Go.bits .or .u64 x3_1 (shl .u64 (IntKind.u64.wrap (Go.bits .and .u8 t105 127)) x4_1)) / 2), t106, false))) else (wr_number.l0 kj8 (Go.bits .or .u64 x3_1 (shl .u64 (IntKind.u64.wrap (Go.bits .and .u8 t105 127)) x4_1)) (wrap64 (x4_1 + 7)) s0_0 t106 false)) else (none)) = some (r1, r2, r3) := by rw [if_neg (show ¬ (false = true) by decide)] at H; exact H
        clear H
        have H := H1
        clear H1
        by_cases c14 : 0 ≤ x4_1
        ·rw [if_pos c14] at H
         have c14b0 := eq_true c14
         have c14b1 : decide (0 ≤ x4_1) = true := decide_eq_true c14
         clear c14
         obtain ⟨ji15, hji15⟩ : ∃ j_ : Int, (shl .u64 (IntKind.u64.wrap (Go.bits .and .u8 t105 127)) x4_1) = j_ := ⟨_, rfl⟩
         replace H : (if t105 < 128 then (if (Go.bits .and .u64 (Go.bits .or .u64 x3_1 (ji15)) 1) = 1 then (some (Go.bits .xor .i64 (-1) (wrap64 ((Go.bits .or .u64 x3_1 (ji15)) / 2)), t106, false)) else (some (wrap64 ((Go.bits .or .u64 x3_1 (ji15)) / 2), t106, false))) else (wr_number.l0 kj8 (Go.bits .or .u64 x3_1 (ji15)) (wrap64 (x4_1 + 7)) s0_0 t106 false)) = some (r1, r2, r3) := by first | (rw [hji15] at H; exact H) | (simp only [hji15] at H ⊢; exact H)
         have hji15_ : (IntKind.u64.wrap ((IntKind.u64.wrap (Go.bits .and .u8 t105 127)) * 2 ^ min x4_1.toNat 64)) = ji15 := hji15
         have hji15z : x4_1 ≤ 64 → (IntKind.u64.wrap ((IntKind.u64.wrap (Go.bits .and .u8 t105 127)) * 2 ^ x4_1.toNat)) = ji15 := shl_small hji15
         by_cases c16 : t105 < 128
         ·rw [if_pos c16] at H
          have c16b0 : decide (t105 < 128) = true := decide_eq_true c16
          clear c16
          by_cases c17 : (Go.bits .and .u64 (Go.bits .or .u64 x3_1 (ji15)) 1) = 1
          ·rw [if_pos c17] at H
           have c17b0 : ((Go.bits .and .u64 (Go.bits .or .u64 x3_1 (ji15)) 1) == 1) = true := beq_iff_eq.mpr c17
           have c17b1 : ((Go.bits .and .u64 (Go.bits .or .u64 x3_1 (ji15)) 1) != 1) = false := bne_eq_false_iff_eq.mpr c17
           clear c17
           simp only [Option.some.injEq, Prod.mk.injEq] at H
           obtain ⟨rfl, rfl, rfl⟩ := H
           obtain ⟨ASz18_0, cSz18_0, HGz18, hgz18, HSz18_0⟩ := HI0.out
           have hcz18_0 := cellS77_0 HGz18
           have hcz18_1 := cellS77_1 HGz18
           have hcz18_2 := cellS77_2 HGz18
           have hfz18_1 := bfz HGz18 1
           have hfz18_2 := bfz HGz18 2
           clear HGz18 hgz18
           go_wp2
           go_ret
           exact ⟨by first | rfl | (simp [errW_none, errW_some] <;> rfl) | (simp only [← hji15]; first | rfl | (simp [errW_none, errW_some] <;> rfl)) | (simp [*, errW_none, errW_some] <;> rfl), Z3, Z2, Z0⟩
          ·rw [if_neg c17] at H
           have c17b0 : ((Go.bits .and .u64 (Go.bits .or .u64 x3_1 (ji15)) 1) == 1) = false := beq_eq_false_iff_ne.mpr c17
           have c17b1 : ((Go.bits .and .u64 (Go.bits .or .u64 x3_1 (ji15)) 1) != 1) = true := bne_iff_ne.mpr c17
           simp only [Option.some.injEq, Prod.mk.injEq] at H
           obtain ⟨rfl, rfl, rfl⟩ := H
           obtain ⟨ASz19_0, cSz19_0, HGz19, hgz19, HSz19_0⟩ := HI0.out
           have hcz19_0 := cellS77_0 HGz19
           have hcz19_1 := cellS77_1 HGz19
           have hcz19_2 := cellS77_2 HGz19
           have hfz19_1 := bfz HGz19 1
           have hfz19_2 := bfz HGz19 2
           clear HGz19 hgz19
           go_wp2
           go_ret
           exact ⟨by first | rfl | (simp [errW_none, errW_some] <;> rfl) | (simp only [← hji15]; first | rfl | (simp [errW_none, errW_some] <;> rfl)) | (simp [*, errW_none, errW_some] <;> rfl), Z3, Z2, Z0⟩
         ·rw [if_neg c16] at H
          have c16b0 : decide (t105 < 128) = false := decide_eq_false c16
          clear c16
          have H' := Ak H
          clear H
          obtain ⟨ASz20_0, cSz20_0, HGz20, hgz20, HSz20_0⟩ := HI0.out
          have hcz20_0 := cellS77_0 HGz20
          have hcz20_1 := cellS77_1 HGz20
          have hcz20_2 := cellS77_2 HGz20
          have hfz20_1 := bfz HGz20 1
          have hfz20_2 := bfz HGz20 2
          clear HGz20 hgz20
          go_wp2
          go_roundg kj8
          case measure => have := HK1.out; have := HJ2.out; have := HJ8.out; omega
          case rel => exact ⟨(Go.bits .or .u64 x3_1 (ji15)), (wrap64 (x4_1 + 7)), (t106), (false), (by first | rfl | (simp; done) | (simp only [← hji15] <;> (first | rfl | simp)) | (simp [*]; done)), Z11, H', ⟨by have := HK1.out; have := HJ2.out; have := HJ8.out; omega⟩, ⟨Z3⟩, ⟨Z0⟩, ⟨Z2⟩⟩
        ·rw [if_neg c14] at H
         exact absurd H (by simp)
def wire_GetInt.f (k : Nat) (l0 : List Int) (a1 : Int) : Option (Int × Int × Int) := (wire_from.f l0 a1).bind fun bt108 => ((wr_number.f k bt108.1 bt108.2.1 bt108.2.2).bind fun bt112 => (if bt112.2.2 = true then (some (0, 0, 13)) else (some (bt112.1, bt112.2.1, 0))))
set_option maxHeartbeats 8000000 in
set_option maxRecDepth 100000 in
theorem wire_GetInt.calls (k : Nat) (A0 : Option Addr) (c0 : Nat) (l0 : List Int) (a1 : Int) (r1 : Int) (r2 : Int) (r3 : Int) (w : World) (hr0 : Kd.C (Kd.int .u8) w A0 l0.length l0) (hc0 : l0.length ≤ c0) (h : wire_GetInt.f k l0 a1 = some (r1, r2, r3)) :
  Calls Tryz.prog 12 #[.slice A0 l0.length c0, .int .i64 a1] w fun e w' => e = .returned (.tuple #[.int .i64 r1, .int .i64 r2, .int .i64 r3]) ∧ Below w.heap.size w w' := by
 have HR0 := Ak hr0
 have HC0 := Ak hc0
 clear hr0 hc0
 have HB := Ak (Below.refl w.heap.size w)
 have H : ((wire_from.f l0 a1).bind fun bt108 => ((wr_number.f k bt108.1 bt108.2.1 bt108.2.2).bind fun bt112 => (if bt112.2.2 = true then (some (0, 0, 13)) else (some (bt112.1, bt112.2.1, 0))))) = some (r1, r2, r3) := h
 clear h
 replace H := Option.bind_eq_some_iff.mp H
 obtain ⟨⟨t108, t109, t110⟩, A30, H⟩ := H
 replace H : ((wr_number.f k t108 t109 t110).bind fun bt112 => (if bt112.2.2 = true then (some (0, 0, 13)) else (some (bt112.1, bt112.2.1, 0)))) = some (r1, r2, r3) := H
 have A3 := Ak A30
 clear A30
 replace H := Option.bind_eq_some_iff.mp H
 obtain ⟨⟨t112, t113, t114⟩, A40, H⟩ := H
 replace H : (if t114 = true then (some (0, 0, 13)) else (some (t112, t113, 0))) = some (r1, r2, r3) := H
 have A4 := Ak A40
 clear A40
 by_cases c5 : t114 = true
 ·subst c5
  have H1 : (some (0, 0, 13)) = some (r1, r2, r3) := by rw [if_pos rfl] at H; exact H
  clear H
  have H := H1
  clear H1
  simp only [Option.some.injEq, Prod.mk.injEq] at H
  obtain ⟨rfl, rfl, rfl⟩ := H
  go_enter Tryz.func12, Tryz.ntmps12
  go_wp2_with (first | (go_at_call 32; (with_reducible refine (wire_from.calls _ _ l0 a1 t108 t109 t110 w _ ?side1 ?side2 ?side3 A3.out).mono ?_); (case side1 => exact Z1); (case side2 => exact HR0.out); (case side3 => exact Z77); rintro e w6 ⟨g111, rfl, hi, hb, hb2⟩; have n0_ := Ak (hb); have n1_ := Ak (hi); clear HB; have HB := n0_; have HI111 := n1_; clear n0_ n1_; (try clear hb); (try clear hb2); (try clear hk); (try clear hi)) | (go_at_call 33; (with_reducible refine (wr_number.calls k g111 t108 t109 t110 t112 t113 true w _ ?side1 ?side2 A4.out).mono ?_); (case side1 => exact Z46); (case side2 => exact Z35); rintro e w7 ⟨rfl, hi, hb, hk⟩; have n0_ := Ak (hb); have n1_ := Ak (hi); clear HB; clear HI111; have HB := n0_; have HI111 := n1_; clear n0_ n1_; (try clear hb); (try clear hb2); (try clear hk); (try clear hi); obtain ⟨ASz8_0, cSz8_0, HGz8, hgz8, HSz8_0⟩ := HI111.out; have hcz8_0 := cellS77_0 HGz8; have hcz8_1 := cellS77_1 HGz8; have hcz8_2 := cellS77_2 HGz8; have hfz8_1 := bfz HGz8 1; have hfz8_2 := bfz HGz8 2; clear HGz8 hgz8))
  repeat (go_quiet (first | (go_at_call 32; (with_reducible refine (wire_from.calls _ _ l0 a1 t108 t109 t110 w _ ?side1 ?side2 ?side3 A3.out).mono ?_); (case side1 => exact Z1); (case side2 => exact HR0.out); (case side3 => exact Z77); rintro e w6 ⟨g111, rfl, hi, hb, hb2⟩; have n0_ := Ak (hb); have n1_ := Ak (hi); clear HB; have HB := n0_; have HI111 := n1_; clear n0_ n1_; (try clear hb); (try clear hb2); (try clear hk); (try clear hi)) | (go_at_call 33; (with_reducible refine (wr_number.calls k g111 t108 t109 t110 t112 t113 true w _ ?side1 ?side2 A4.out).mono ?_); (case side1 => exact Z46); (case side2 => exact Z35); rintro e w7 ⟨rfl, hi, hb, hk⟩; have n0_ := Ak (hb); have n1_ := Ak (hi); clear HB; clear HI111; have HB := n0_; have HI111 := n1_; clear n0_ n1_; (try clear hb); (try clear hb2); (try clear hk); (try clear hi); obtain ⟨ASz8_0, cSz8_0, HGz8, hgz8, HSz8_0⟩ := HI111.out; have hcz8_0 := cellS77_0 HGz8; have hcz8_1 := cellS77_1 HGz8; have hcz8_2 := cellS77_2 HGz8; have hfz8_1 := bfz HGz8 1; have hfz8_2 := bfz HGz8 2; clear HGz8 hgz8)); try go_wp2_with (first | (go_at_call 32; (with_reducible refine (wire_from.calls _ _ l0 a1 t108 t109 t110 w _ ?side1 ?side2 ?side3 A3.out).mono ?_); (case side1 => exact Z1); (case side2 => exact HR0.out); (case side3 => exact Z77); rintro e w6 ⟨g111, rfl, hi, hb, hb2⟩; have n0_ := Ak (hb); have n1_ := Ak (hi); clear HB; have HB := n0_; have HI111 := n1_; clear n0_ n1_; (try clear hb); (try clear hb2); (try clear hk); (try clear hi)) | (go_at_call 33; (with_reducible refine (wr_number.calls k g111 t108 t109 t110 t112 t113 true w _ ?side1 ?side2 A4.out).mono ?_); (case side1 => exact Z46); (case side2 => exact Z35); rintro e w7 ⟨rfl, hi, hb, hk⟩; have n0_ := Ak (hb); have n1_ := Ak (hi); clear HB; clear HI111; have HB := n0_; have HI111 := n1_; clear n0_ n1_; (try clear hb); (try clear hb2); (try clear hk); (try clear hi); obtain ⟨ASz8_0, cSz8_0, HGz8, hgz8, HSz8_0⟩ := HI111.out; have hcz8_0 := cellS77_0 HGz8; have hcz8_1 := cellS77_1 HGz8; have hcz8_2 := cellS77_2 HGz8; have hfz8_1 := bfz HGz8 1; have hfz8_2 := bfz HGz8 2; clear HGz8 hgz8)))
  go_ret3
  exact ⟨Z6, Z35⟩
 ·replace c5 := Bool.eq_false_iff.mpr c5
  subst c5
  have H1 : (some (t112, t113, 0)) = some (r1, r2, r3) := by rw [if_neg (show ¬ (false = true) by decide)] at H; exact H
  clear H
  have H := H1
  clear H1
  simp only [Option.some.injEq, Prod.mk.injEq] at H
  obtain ⟨rfl, rfl, rfl⟩ := H
  go_enter Tryz.func12, Tryz.ntmps12
  go_wp2_with (first | (go_at_call 32; (with_reducible refine (wire_from.calls _ _ l0 a1 t108 t109 t110 w _ ?side1 ?side2 ?side3 A3.out).mono ?_); (case side1 => exact Z1); (case side2 => exact HR0.out); (case side3 => exact Z77); rintro e w9 ⟨g111, rfl, hi, hb, hb2⟩; have n0_ := Ak (hb); have n1_ := Ak (hi); clear HB; have HB := n0_; have HI111 := n1_; clear n0_ n1_; (try clear hb); (try clear hb2); (try clear hk); (try clear hi)) | (go_at_call 33; (with_reducible refine (wr_number.calls k g111 t108 t109 t110 t112 t113 false w _ ?side1 ?side2 A4.out).mono ?_); (case side1 => exact Z46); (case side2 => exact Z35); rintro e w10 ⟨rfl, hi, hb, hk⟩; have n0_ := Ak (hb); have n1_ := Ak (hi); clear HB; clear HI111; have HB := n0_; have HI111 := n1_; clear n0_ n1_; (try clear hb); (try clear hb2); (try clear hk); (try clear hi); obtain ⟨ASz11_0, cSz11_0, HGz11, hgz11, HSz11_0⟩ := HI111.out; have hcz11_0 := cellS77_0 HGz11; have hcz11_1 := cellS77_1 HGz11; have hcz11_2 := cellS77_2 HGz11; have hfz11_1 := bfz HGz11 1; have hfz11_2 := bfz HGz11 2; clear HGz11 hgz11))
  repeat (go_quiet (first | (go_at_call 32; (with_reducible refine (wire_from.calls _ _ l0 a1 t108 t109 t110 w _ ?side1 ?side2 ?side3 A3.out).mono ?_); (case side1 => exact Z1); (case side2 => exact HR0.out); (case side3 => exact Z77); rintro e w9 ⟨g111, rfl, hi, hb, hb2⟩; have n0_ := Ak (hb); have n1_ := Ak (hi); clear HB; have HB := n0_; have HI111 := n1_; clear n0_ n1_; (try clear hb); (try clear hb2); (try clear hk); (try clear hi)) | (go_at_call 33; (with_reducible refine (wr_number.calls k g111 t108 t109 t110 t112 t113 false w _ ?side1 ?side2 A4.out).mono ?_); (case side1 => exact Z46); (case side2 => exact Z35); rintro e w10 ⟨rfl, hi, hb, hk⟩; have n0_ := Ak (hb); have n1_ := Ak (hi); clear HB; clear HI111; have HB := n0_; have HI111 := n1_; clear n0_ n1_; (try clear hb); (try clear hb2); (try clear hk); (try clear hi); obtain ⟨ASz11_0, cSz11_0, HGz11, hgz11, HSz11_0⟩ := HI111.out; have hcz11_0 := cellS77_0 HGz11; have hcz11_1 := cellS77_1 HGz11; have hcz11_2 := cellS77_2 HGz11; have hfz11_1 := bfz HGz11 1; have hfz11_2 := bfz HGz11 2; clear HGz11 hgz11)); try go_wp2_with (first | (go_at_call 32; (with_reducible refine (wire_from.calls _ _ l0 a1 t108 t109 t110 w _ ?side1 ?side2 ?side3 A3.out).mono ?_); (case side1 => exact Z1); (case side2 => exact HR0.out); (case side3 => exact Z77); rintro e w9 ⟨g111, rfl, hi, hb, hb2⟩; have n0_ := Ak (hb); have n1_ := Ak (hi); clear HB; have HB := n0_; have HI111 := n1_; clear n0_ n1_; (try clear hb); (try clear hb2); (try clear hk); (try clear hi)) | (go_at_call 33; (with_reducible refine (wr_number.calls k g111 t108 t109 t110 t112 t113 false w _ ?side1 ?side2 A4.out).mono ?_); (case side1 => exact Z46); (case side2 => exact Z35); rintro e w10 ⟨rfl, hi, hb, hk⟩; have n0_ := Ak (hb); have n1_ := Ak (hi); clear HB; clear HI111; have HB := n0_; have HI111 := n1_; clear n0_ n1_; (try clear hb); (try clear hb2); (try clear hk); (try clear hi); obtain ⟨ASz11_0, cSz11_0, HGz11, hgz11, HSz11_0⟩ := HI111.out; have hcz11_0 := cellS77_0 HGz11; have hcz11_1 := cellS77_1 HGz11; have hcz11_2 := cellS77_2 HGz11; have hfz11_1 := bfz HGz11 1; have hfz11_2 := bfz HGz11 2; clear HGz11 hgz11)))
  go_ret3
  exact ⟨Z6, Z35⟩
end Go.Proofs.YtmmjnbpoilicjaaGreat.Q
