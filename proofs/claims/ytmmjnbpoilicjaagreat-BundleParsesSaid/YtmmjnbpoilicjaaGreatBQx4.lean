/- What functions of the program compute, and that their code computes it (turned out of what the printer of the kit wrote), part 3. -/
import Derived.Test.YtmmjnbpoilicjaaGreatBQa
import Derived.Test.YtmmjnbpoilicjaaGreatBQx0
import Derived.Test.YtmmjnbpoilicjaaGreatBQx2
import Derived.Test.YtmmjnbpoilicjaaGreatBQx3
set_option linter.unusedVariables false
set_option linter.unusedSimpArgs false
namespace Go.Proofs.YtmmjnbpoilicjaaGreat.Q
open Go.RowKit Go.Proofs.YtmmjnbpoilicjaaGreatW.PrintWords Go.Proofs.YtmmjnbpoilicjaaGreatW.PrintLast Go.Proofs.YtmmjnbpoilicjaaGreatW.PrintMore
attribute [local go_sem] max2_int min2_int max_two min_two max_three min_three max_four min_four   -- for this text's walks alone
def wr_commit.f (k : Nat) (s0_0 : List Int) (s0_1 : Int) (s0_2 : Bool) : Option (Int × List Int × List Int × ByteArray × (List (S110)) × Int × Bool) := (wr_number.f k s0_0 s0_1 s0_2).bind fun bt166 => ((wire_list_int.f k s0_0 bt166.2.1 bt166.2.2).bind fun bt169 => ((wire_list_int.f k s0_0 bt169.2.1 bt169.2.2).bind fun bt174 => ((wr_text.f k s0_0 bt174.2.1 bt174.2.2).bind fun bt179 => ((api_Cell.f k s0_0 bt179.2.1 bt179.2.2).bind fun bt182 => (some (bt166.1, bt169.1, bt174.1, bt179.1, bt182.1, bt182.2.1, bt182.2.2))))))
set_option maxHeartbeats 8000000 in
set_option maxRecDepth 100000 in
theorem wr_commit.calls (k : Nat) (g : Nat) (s0_0 : List Int) (s0_1 : Int) (s0_2 : Bool) (r1 : Int) (r2 : List Int) (r3 : List Int) (r4 : ByteArray) (r5 : List (S110)) (r6 : Int) (r7 : Bool) (w0 w : World) (hI : IsS77 w0 w g s0_0 s0_1 s0_2) (hB : Below w0.heap.size w0 w) (h : wr_commit.f k s0_0 s0_1 s0_2 = some (r1, r2, r3, r4, r5, r6, r7)) :
  Calls Tryz.prog 35 #[.pointer (some ⟨g, 0, none⟩)] w fun e w' => ∃ v1_ v2_ v4_ : Value, e = .returned (.agg #[.int .i64 r1, v1_, v2_, .string r4, v4_]) ∧ Kd.R (Kd.int .i64) 3 w' w.heap.size (fun k_ => some k_ ≠ (v2_ : Value).ownBlock) v1_ r2 ∧ Kd.R (Kd.int .i64) 3 w' w.heap.size (fun k_ => some k_ ≠ (v1_ : Value).ownBlock) v2_ r3 ∧ Kd.R k110 110 w' w.heap.size (fun _ => True) v4_ r5 ∧ IsS77 w0 w' g s0_0 r6 r7 ∧ Below w0.heap.size w0 w' ∧ KeepBut w w' g none := by
 have hu35 := Tryz.underlying35
 have HI0 := Ak hI
 have HK := Ak (KeepBut.refl w g none)
 have HL := Ak hB.size
 clear hI
 have HW0 := Ak hB.size
 have HB := Ak hB
 clear hB
 have H : ((wr_number.f k s0_0 s0_1 s0_2).bind fun bt166 => ((wire_list_int.f k s0_0 bt166.2.1 bt166.2.2).bind fun bt169 => ((wire_list_int.f k s0_0 bt169.2.1 bt169.2.2).bind fun bt174 => ((wr_text.f k s0_0 bt174.2.1 bt174.2.2).bind fun bt179 => ((api_Cell.f k s0_0 bt179.2.1 bt179.2.2).bind fun bt182 => (some (bt166.1, bt169.1, bt174.1, bt179.1, bt182.1, bt182.2.1, bt182.2.2))))))) = some (r1, r2, r3, r4, r5, r6, r7) := h
 clear h
 replace H := Option.bind_eq_some_iff.mp H
 obtain ⟨⟨t166, t167, t168⟩, A20, H⟩ := H
 replace H : ((wire_list_int.f k s0_0 t167 t168).bind fun bt169 => ((wire_list_int.f k s0_0 bt169.2.1 bt169.2.2).bind fun bt174 => ((wr_text.f k s0_0 bt174.2.1 bt174.2.2).bind fun bt179 => ((api_Cell.f k s0_0 bt179.2.1 bt179.2.2).bind fun bt182 => (some (t166, bt169.1, bt174.1, bt179.1, bt182.1, bt182.2.1, bt182.2.2)))))) = some (r1, r2, r3, r4, r5, r6, r7) := H
 have A2 := Ak A20
 clear A20
 replace H := Option.bind_eq_some_iff.mp H
 obtain ⟨⟨t169, t172, t173⟩, A30, H⟩ := H
 replace H : ((wire_list_int.f k s0_0 t172 t173).bind fun bt174 => ((wr_text.f k s0_0 bt174.2.1 bt174.2.2).bind fun bt179 => ((api_Cell.f k s0_0 bt179.2.1 bt179.2.2).bind fun bt182 => (some (t166, t169, bt174.1, bt179.1, bt182.1, bt182.2.1, bt182.2.2))))) = some (r1, r2, r3, r4, r5, r6, r7) := H
 have A3 := Ak A30
 clear A30
 replace H := Option.bind_eq_some_iff.mp H
 obtain ⟨⟨t174, t177, t178⟩, A40, H⟩ := H
 replace H : ((wr_text.f k s0_0 t177 t178).bind fun bt179 => ((api_Cell.f k s0_0 bt179.2.1 bt179.2.2).bind fun bt182 => (some (t166, t169, t174, bt179.1, bt182.1, bt182.2.1, bt182.2.2)))) = some (r1, r2, r3, r4, r5, r6, r7) := H
 have A4 := Ak A40
 clear A40
 replace H := Option.bind_eq_some_iff.mp H
 obtain ⟨⟨t179, t180, t181⟩, A50, H⟩ := H
 replace H : ((api_Cell.f k s0_0 t180 t181).bind fun bt182 => (some (t166, t169, t174, t179, bt182.1, bt182.2.1, bt182.2.2))) = some (r1, r2, r3, r4, r5, r6, r7) := H
 have A5 := Ak A50
 clear A50
 replace H := Option.bind_eq_some_iff.mp H
 obtain ⟨⟨t182, t185, t186⟩, A60, H⟩ := H
 replace H : (some (t166, t169, t174, t179, t182, t185, t186)) = some (r1, r2, r3, r4, r5, r6, r7) := H
 have A6 := Ak A60
 clear A60
 simp only [Option.some.injEq, Prod.mk.injEq] at H
 obtain ⟨rfl, rfl, rfl, rfl, rfl, rfl, rfl⟩ := H
 go_enter Tryz.func35, Tryz.ntmps35
 go_wp2_with (first | ((with_reducible refine gate_dst (N := 2) rfl ?_); refine box_event ?hg (N := 2) ?hd (cs := #[.int .i64 0, .slice none 0 0, .slice none 0 0, .string (⟨#[]⟩ : ByteArray), .slice none 0 0]) (t := 35) ?hr ?_; (case hd => rfl); (case hg => rfl); (case hr => exact Z16); intro gb164 hg w7 hbox hb; have n0_ := Ak (IsS77.below Z3 hb); have n1_ := Ak (KeepBut.trans Z0 (KeepBut.of_below hb g none) (.inl rfl)); have n2_ := Ak (below_step Z2 hb); have n3_ := Ak (hbox); have n4_ := Ak ((by rw [hg]; exact (keep_size (w := w) (g := g) (row := none) Z0) : w.heap.size ≤ gb164)); have n5_ := Ak ((Nat.le_trans HW0.out (by rw [hg]; exact (keep_size (w := w) (g := g) (row := none) Z0) : w.heap.size ≤ gb164) : w0.heap.size ≤ gb164)); have n6_ := Ak ((Z108 : g ≠ gb164)); have n7_ := Ak ((Z109 : gb164 ≠ g)); clear HI0; clear HK; clear HB; have HI0 := n0_; have HK := n1_; have HB := n2_; have BK164 := n3_; have GW164 := n4_; have GE164 := n5_; have NB0_164 := n6_; have NB164_0 := n7_; clear n0_ n1_ n2_ n3_ n4_ n5_ n6_ n7_; clear hb hbox hg) | ((with_reducible refine gate_dst (N := 3) rfl ?_); refine box_event ?hg (N := 3) ?hd (cs := #[.int .i64 0, .slice none 0 0, .slice none 0 0, .string (⟨#[]⟩ : ByteArray), .slice none 0 0]) (t := 35) ?hr ?_; (case hd => rfl); (case hg => rfl); (case hr => exact Z16); intro gb165 hg w8 hbox hb; have n0_ := Ak (IsS77.below (by repeat (first | (with_reducible first | exact HI0.out | apply IsS77.alloc | apply IsS77.drewN | apply IsS77.drew | apply IsS77.set_1 | apply IsS77.set_2 | refine IsS77.far ?_ NB0_164.out _) | exact HI0.out)) hb); have n1_ := Ak (blk_below (g := gb164) (o := .cells #[.int .i64 0, .slice none 0 0, .slice none 0 0, .string (⟨#[]⟩ : ByteArray), .slice none 0 0] 35 (0, 0)) (by refine bz ?_; exact BK164.out) hb); have n2_ := Ak (KeepBut.trans Z79 (KeepBut.of_below hb g none) (.inl rfl)); have n3_ := Ak (below_step (by repeat (first | (with_reducible first | exact HB.out | apply below_alloc | apply pw_below_drewN | apply below_drew1 | refine below_set ?_ (IsS77.ge HI0.out) | refine below_set ?_ GE164.out) | exact HB.out)) hb); have n4_ := Ak (hbox); have n5_ := Ak ((by rw [hg]; exact (keep_size (w := w) (g := g) (row := none) Z79) : w.heap.size ≤ gb165)); have n6_ := Ak ((Nat.le_trans HW0.out (by rw [hg]; exact (keep_size (w := w) (g := g) (row := none) Z79) : w.heap.size ≤ gb165) : w0.heap.size ≤ gb165)); have n7_ := Ak ((by rw [hg]; exact Nat.ne_of_lt (blk_lt (g := gb164) (o := .cells #[.int .i64 0, .slice none 0 0, .slice none 0 0, .string (⟨#[]⟩ : ByteArray), .slice none 0 0] 35 (0, 0)) (by refine bz ?_; exact BK164.out)) : gb164 ≠ gb165)); have n8_ := Ak ((by rw [hg]; exact Nat.ne_of_gt (blk_lt (g := gb164) (o := .cells #[.int .i64 0, .slice none 0 0, .slice none 0 0, .string (⟨#[]⟩ : ByteArray), .slice none 0 0] 35 (0, 0)) (by refine bz ?_; exact BK164.out)) : gb165 ≠ gb164)); have n9_ := Ak ((by rw [hg]; exact Nat.ne_of_lt (IsS77.lt (show IsS77 w0 _ g s0_0 s0_1 s0_2 from by repeat (first | (with_reducible first | exact HI0.out | apply IsS77.alloc | apply IsS77.drewN | apply IsS77.drew | apply IsS77.set_1 | apply IsS77.set_2 | refine IsS77.far ?_ NB0_164.out _) | exact HI0.out))) : g ≠ gb165)); have n10_ := Ak ((by rw [hg]; exact Nat.ne_of_gt (IsS77.lt (show IsS77 w0 _ g s0_0 s0_1 s0_2 from by repeat (first | (with_reducible first | exact HI0.out | apply IsS77.alloc | apply IsS77.drewN | apply IsS77.drew | apply IsS77.set_1 | apply IsS77.set_2 | refine IsS77.far ?_ NB0_164.out _) | exact HI0.out))) : gb165 ≠ g)); clear HI0; clear BK164; clear HK; clear HB; have HI0 := n0_; have BK164 := n1_; have HK := n2_; have HB := n3_; have BK165 := n4_; have GW165 := n5_; have GE165 := n6_; have NB164_165 := n7_; have NB165_164 := n8_; have NB0_165 := n9_; have NB165_0 := n10_; clear n0_ n1_ n2_ n3_ n4_ n5_ n6_ n7_ n8_ n9_ n10_; clear hb hbox hg) | ((with_reducible refine gate_callee (f := 33) rfl ?_); refine goesL_ (some 5) rfl rfl Tryz.func33 Z76 rfl #[.pointer (some ⟨g, 0, none⟩)] rfl Z4 ?_; (with_reducible refine (wr_number.calls k g s0_0 s0_1 s0_2 t166 t167 t168 w0 _ ?side1 ?side2 A2.out).mono ?_); (case side1 => exact Z34); (case side2 => exact Z37); rintro e w9 ⟨rfl, hi, hb, hk⟩; refine ⟨_, rfl, ?_⟩; have n0_ := Ak (KeepBut.blk hk (g' := gb164) (o := .cells #[.int .i64 0, .slice none 0 0, .slice none 0 0, .string (⟨#[]⟩ : ByteArray), .slice none 0 0] 35 (0, 0)) (by refine bz ?_; exact BK164.out) NB164_0.out (by simp)); have n1_ := Ak (KeepBut.blk hk (g' := gb165) (o := .cells #[.int .i64 0, .slice none 0 0, .slice none 0 0, .string (⟨#[]⟩ : ByteArray), .slice none 0 0] 35 (0, 0)) (by refine bz ?_; exact BK165.out) NB165_0.out (by simp)); have n2_ := Ak (KeepBut.trans Z22 hk (.inl rfl)); have n3_ := Ak (hb); have n4_ := Ak (hi); clear BK164; clear BK165; clear HK; clear HB; clear HI0; have BK164 := n0_; have BK165 := n1_; have HK := n2_; have HB := n3_; have HI0 := n4_; clear n0_ n1_ n2_ n3_ n4_; (try clear hb); (try clear hb2); (try clear hk); (try clear hi); have hnb10 := NB165_164.out; have hnc10 := NB164_165.out; have hnb11 := NB165_0.out; have hnc11 := NB0_165.out; have hcz12_0 : w9.cell? ⟨gb165, 0, none⟩ = some (.int .i64 0) := (blk_cell BK165.out 0).trans rfl; have hcz12_1 : w9.cell? ⟨gb165, 1, none⟩ = some (.slice none 0 0) := (blk_cell BK165.out 1).trans rfl; have hcz12_2 : w9.cell? ⟨gb165, 2, none⟩ = some (.slice none 0 0) := (blk_cell BK165.out 2).trans rfl; have hcz12_3 : w9.cell? ⟨gb165, 3, none⟩ = some (.string (⟨#[]⟩ : ByteArray)) := (blk_cell BK165.out 3).trans rfl; have hcz12_4 : w9.cell? ⟨gb165, 4, none⟩ = some (.slice none 0 0) := (blk_cell BK165.out 4).trans rfl; have hfz12_0 := bfz BK165.out 0; have hfz12_1 := bfz BK165.out 1; have hfz12_2 := bfz BK165.out 2; have hfz12_3 := bfz BK165.out 3; have hfz12_4 := bfz BK165.out 4) | ((with_reducible refine gate_callee (f := 68) rfl ?_); refine goesL_ (some 10) rfl rfl Tryz.func68 Z76 rfl #[.pointer (some ⟨g, 0, none⟩), .func (.func 33) #[.pointer (some ⟨g, 0, none⟩)] #[]] rfl Z4 ?_; (with_reducible refine (wire_list_int.calls k g s0_0 t167 t168 t169 t172 t173 w0 _ ?side1 ?side2 A3.out).mono ?_); (case side1 => exact Z34); (case side2 => exact Z37); rintro e w13 ⟨v170, rfl, ho0, hi, hb, hk⟩; refine ⟨_, rfl, ?_⟩; have n0_ := Ak (KeepBut.blk hk (g' := gb164) (o := .cells #[.int .i64 0, .slice none 0 0, .slice none 0 0, .string (⟨#[]⟩ : ByteArray), .slice none 0 0] 35 (0, 0)) Z111 NB164_0.out (by simp)); have n1_ := Ak (KeepBut.blk hk (g' := gb165) (o := .cells #[.int .i64 t166, .slice none 0 0, .slice none 0 0, .string (⟨#[]⟩ : ByteArray), .slice none 0 0] 35 (0, 0)) (by refine bz ?_; refine blk_put (cs := #[.int .i64 0, .slice none 0 0, .slice none 0 0, .string (⟨#[]⟩ : ByteArray), .slice none 0 0]) ?_ 0 _ rfl; refine bz ?_; exact BK165.out) NB165_0.out (by simp)); have n2_ := Ak (Kd.R_lower ho0 (keep_size (w := w) (g := g) (row := none) Z22)); have n3_ := Ak (KeepBut.trans Z22 hk (.inl rfl)); have n4_ := Ak (hb); have n5_ := Ak (hi); clear BK164; clear BK165; clear HK; clear HB; clear HI0; have BK164 := n0_; have BK165 := n1_; have HO171 := n2_; have HK := n3_; have HB := n4_; have HI0 := n5_; clear n0_ n1_ n2_ n3_ n4_ n5_; (try clear hb); (try clear hb2); (try clear hk); (try clear hi); (try clear ho0); obtain ⟨Ao14, co14, eo14⟩ := Kd.R_slice HO171.out; subst eo14; have hcz15_0 : w13.cell? ⟨gb165, 0, none⟩ = some (.int .i64 t166) := (blk_cell BK165.out 0).trans rfl; have hcz15_1 : w13.cell? ⟨gb165, 1, none⟩ = some (.slice none 0 0) := (blk_cell BK165.out 1).trans rfl; have hcz15_2 : w13.cell? ⟨gb165, 2, none⟩ = some (.slice none 0 0) := (blk_cell BK165.out 2).trans rfl; have hcz15_3 : w13.cell? ⟨gb165, 3, none⟩ = some (.string (⟨#[]⟩ : ByteArray)) := (blk_cell BK165.out 3).trans rfl; have hcz15_4 : w13.cell? ⟨gb165, 4, none⟩ = some (.slice none 0 0) := (blk_cell BK165.out 4).trans rfl; have hfz15_0 := bfz BK165.out 0; have hfz15_1 := bfz BK165.out 1; have hfz15_2 := bfz BK165.out 2; have hfz15_3 := bfz BK165.out 3; have hfz15_4 := bfz BK165.out 4) | ((with_reducible refine gate_callee (f := 68) rfl ?_); refine goesL_ (some 15) rfl rfl Tryz.func68 Z76 rfl #[.pointer (some ⟨g, 0, none⟩), .func (.func 33) #[.pointer (some ⟨g, 0, none⟩)] #[]] rfl Z4 ?_; (with_reducible refine (wire_list_int.calls k g s0_0 t172 t173 t174 t177 t178 w0 _ ?side1 ?side2 A4.out).mono ?_); (case side1 => exact Z34); (case side2 => exact Z37); rintro e w16 ⟨v175, rfl, ho0, hi, hb, hk⟩; refine ⟨_, rfl, ?_⟩; have n0_ := Ak (KeepBut.blk hk (g' := gb164) (o := .cells #[.int .i64 0, .slice none 0 0, .slice none 0 0, .string (⟨#[]⟩ : ByteArray), .slice none 0 0] 35 (0, 0)) Z111 NB164_0.out (by simp)); have n1_ := Ak (KeepBut.blk hk (g' := gb165) (o := .cells #[.int .i64 t166, .slice Ao14 t169.length co14, .slice none 0 0, .string (⟨#[]⟩ : ByteArray), .slice none 0 0] 35 (0, 0)) (by refine bz ?_; refine blk_put (cs := #[.int .i64 t166, .slice none 0 0, .slice none 0 0, .string (⟨#[]⟩ : ByteArray), .slice none 0 0]) ?_ 1 _ rfl; refine bz ?_; exact BK165.out) NB165_0.out (by simp)); have n2_ := Ak (Kd.R_mono (Kd.R_told (Kd.R_oldK (IsS77.apart (show IsS77 w0 _ g s0_0 t172 t173 from by repeat (first | (with_reducible first | exact HI0.out | apply IsS77.alloc | apply IsS77.drewN | apply IsS77.drew | apply IsS77.set_1 | apply IsS77.set_2 | refine IsS77.far ?_ NB0_164.out _ | refine IsS77.far ?_ NB0_165.out _) | exact HI0.out)) Z107 (by decide)) hk) (Kd.R_base ho0)) (fun _ h_ => h_.1)); have n3_ := Ak (Kd.R_lower (Kd.R_new' ho0 (Kd.R_lt Z107)) (keep_size (w := w) (g := g) (row := none) Z22)); have n4_ := Ak (KeepBut.trans Z22 hk (.inl rfl)); have n5_ := Ak (hb); have n6_ := Ak (hi); clear BK164; clear BK165; clear HO171; clear HK; clear HB; clear HI0; have BK164 := n0_; have BK165 := n1_; have HO171 := n2_; have HO176 := n3_; have HK := n4_; have HB := n5_; have HI0 := n6_; clear n0_ n1_ n2_ n3_ n4_ n5_ n6_; (try clear hb); (try clear hb2); (try clear hk); (try clear hi); (try clear ho0); obtain ⟨Ao17, co17, eo17⟩ := Kd.R_slice HO176.out; subst eo17; have hcz18_0 : w16.cell? ⟨gb165, 0, none⟩ = some (.int .i64 t166) := (blk_cell BK165.out 0).trans rfl; have hcz18_1 : w16.cell? ⟨gb165, 1, none⟩ = some (.slice Ao14 t169.length co14) := (blk_cell BK165.out 1).trans rfl; have hcz18_2 : w16.cell? ⟨gb165, 2, none⟩ = some (.slice none 0 0) := (blk_cell BK165.out 2).trans rfl; have hcz18_3 : w16.cell? ⟨gb165, 3, none⟩ = some (.string (⟨#[]⟩ : ByteArray)) := (blk_cell BK165.out 3).trans rfl; have hcz18_4 : w16.cell? ⟨gb165, 4, none⟩ = some (.slice none 0 0) := (blk_cell BK165.out 4).trans rfl; have hfz18_0 := bfz BK165.out 0; have hfz18_1 := bfz BK165.out 1; have hfz18_2 := bfz BK165.out 2; have hfz18_3 := bfz BK165.out 3; have hfz18_4 := bfz BK165.out 4) | ((with_reducible refine gate_callee (f := 69) rfl ?_); refine goesL_ (some 18) rfl rfl Tryz.func69 Z76 rfl #[.pointer (some ⟨g, 0, none⟩)] rfl Z4 ?_; (with_reducible refine (wr_text.calls k g s0_0 t177 t178 t179 t180 t181 w0 _ ?side1 ?side2 A5.out).mono ?_); (case side1 => exact Z34); (case side2 => exact Z37); rintro e w19 ⟨rfl, hi, hb, hk⟩; refine ⟨_, rfl, ?_⟩; have n0_ := Ak (KeepBut.blk hk (g' := gb164) (o := .cells #[.int .i64 0, .slice none 0 0, .slice none 0 0, .string (⟨#[]⟩ : ByteArray), .slice none 0 0] 35 (0, 0)) Z111 NB164_0.out (by simp)); have n1_ := Ak (KeepBut.blk hk (g' := gb165) (o := .cells #[.int .i64 t166, .slice Ao14 t169.length co14, .slice Ao17 t174.length co17, .string (⟨#[]⟩ : ByteArray), .slice none 0 0] 35 (0, 0)) (by refine bz ?_; refine blk_put (cs := #[.int .i64 t166, .slice Ao14 t169.length co14, .slice none 0 0, .string (⟨#[]⟩ : ByteArray), .slice none 0 0]) ?_ 2 _ rfl; refine bz ?_; exact BK165.out) NB165_0.out (by simp)); have n2_ := Ak (Kd.R_mono (Kd.R_keep (IsS77.apart (show IsS77 w0 _ g s0_0 t177 t178 from by repeat (first | (with_reducible first | exact HI0.out | apply IsS77.alloc | apply IsS77.drewN | apply IsS77.drew | apply IsS77.set_1 | apply IsS77.set_2 | refine IsS77.far ?_ NB0_164.out _ | refine IsS77.far ?_ NB0_165.out _) | exact HI0.out)) (by (with_reducible repeat (first | apply Kd.R_alloc | apply Kd.R_drewN | apply Kd.R_drew)); exact (Kd.R_mono (Kd.R_far (p := ⟨gb165, 2, none⟩) (Kd.R_types HO171.out BK165.out (by decide)) (fun _ hk => hk.2) (.slice Ao17 t174.length co17)) (fun _ h_ => h_.1))) (by decide)) hk (fun _ h => h.2)) (fun _ h => h.1)); have n3_ := Ak (Kd.R_mono (Kd.R_keep (IsS77.apart (show IsS77 w0 _ g s0_0 t177 t178 from by repeat (first | (with_reducible first | exact HI0.out | apply IsS77.alloc | apply IsS77.drewN | apply IsS77.drew | apply IsS77.set_1 | apply IsS77.set_2 | refine IsS77.far ?_ NB0_164.out _ | refine IsS77.far ?_ NB0_165.out _) | exact HI0.out)) (by (with_reducible repeat (first | apply Kd.R_alloc | apply Kd.R_drewN | apply Kd.R_drew)); exact (Kd.R_mono (Kd.R_far (p := ⟨gb165, 2, none⟩) (Kd.R_types HO176.out BK165.out (by decide)) (fun _ hk => hk.2) (.slice Ao17 t174.length co17)) (fun _ h_ => h_.1))) (by decide)) hk (fun _ h => h.2)) (fun _ h => h.1)); have n4_ := Ak (KeepBut.trans Z22 hk (.inl rfl)); have n5_ := Ak (hb); have n6_ := Ak (hi); clear BK164; clear BK165; clear HO171; clear HO176; clear HK; clear HB; clear HI0; have BK164 := n0_; have BK165 := n1_; have HO171 := n2_; have HO176 := n3_; have HK := n4_; have HB := n5_; have HI0 := n6_; clear n0_ n1_ n2_ n3_ n4_ n5_ n6_; (try clear hb); (try clear hb2); (try clear hk); (try clear hi); have hcz20_0 : w19.cell? ⟨gb165, 0, none⟩ = some (.int .i64 t166) := (blk_cell BK165.out 0).trans rfl; have hcz20_1 : w19.cell? ⟨gb165, 1, none⟩ = some (.slice Ao14 t169.length co14) := (blk_cell BK165.out 1).trans rfl; have hcz20_2 : w19.cell? ⟨gb165, 2, none⟩ = some (.slice Ao17 t174.length co17) := (blk_cell BK165.out 2).trans rfl; have hcz20_3 : w19.cell? ⟨gb165, 3, none⟩ = some (.string (⟨#[]⟩ : ByteArray)) := (blk_cell BK165.out 3).trans rfl; have hcz20_4 : w19.cell? ⟨gb165, 4, none⟩ = some (.slice none 0 0) := (blk_cell BK165.out 4).trans rfl; have hfz20_0 := bfz BK165.out 0; have hfz20_1 := bfz BK165.out 1; have hfz20_2 := bfz BK165.out 2; have hfz20_3 := bfz BK165.out 3; have hfz20_4 := bfz BK165.out 4) | ((with_reducible refine gate_callee (f := 70) rfl ?_); refine goesL_ (some 23) rfl rfl Tryz.func70 Z76 rfl #[.pointer (some ⟨g, 0, none⟩), .func (.func 71) #[.pointer (some ⟨g, 0, none⟩)] #[]] rfl Z4 ?_; (with_reducible refine (api_Cell.calls k g s0_0 t180 t181 t182 t185 t186 w0 _ ?side1 ?side2 A6.out).mono ?_); (case side1 => exact Z34); (case side2 => exact Z37); rintro e w21 ⟨v183, rfl, ho0, hi, hb, hk⟩; refine ⟨_, rfl, ?_⟩; have n0_ := Ak (KeepBut.blk hk (g' := gb164) (o := .cells #[.int .i64 0, .slice none 0 0, .slice none 0 0, .string (⟨#[]⟩ : ByteArray), .slice none 0 0] 35 (0, 0)) Z111 NB164_0.out (by simp)); have n1_ := Ak (KeepBut.blk hk (g' := gb165) (o := .cells #[.int .i64 t166, .slice Ao14 t169.length co14, .slice Ao17 t174.length co17, .string t179, .slice none 0 0] 35 (0, 0)) (by refine bz ?_; refine blk_put (cs := #[.int .i64 t166, .slice Ao14 t169.length co14, .slice Ao17 t174.length co17, .string (⟨#[]⟩ : ByteArray), .slice none 0 0]) ?_ 3 _ rfl; refine bz ?_; exact BK165.out) NB165_0.out (by simp)); have n2_ := Ak (Kd.R_mono (Kd.R_keep (IsS77.apart (show IsS77 w0 _ g s0_0 t180 t181 from by repeat (first | (with_reducible first | exact HI0.out | apply IsS77.alloc | apply IsS77.drewN | apply IsS77.drew | apply IsS77.set_1 | apply IsS77.set_2 | refine IsS77.far ?_ NB0_164.out _ | refine IsS77.far ?_ NB0_165.out _) | exact HI0.out)) (by (with_reducible repeat (first | apply Kd.R_alloc | apply Kd.R_drewN | apply Kd.R_drew)); exact (Kd.R_mono (Kd.R_far (p := ⟨gb165, 3, none⟩) (Kd.R_types HO171.out BK165.out (by decide)) (fun _ hk => hk.2) (.string t179)) (fun _ h_ => h_.1))) (by decide)) hk (fun _ h => h.2)) (fun _ h => h.1)); have n3_ := Ak (Kd.R_mono (Kd.R_keep (IsS77.apart (show IsS77 w0 _ g s0_0 t180 t181 from by repeat (first | (with_reducible first | exact HI0.out | apply IsS77.alloc | apply IsS77.drewN | apply IsS77.drew | apply IsS77.set_1 | apply IsS77.set_2 | refine IsS77.far ?_ NB0_164.out _ | refine IsS77.far ?_ NB0_165.out _) | exact HI0.out)) (by (with_reducible repeat (first | apply Kd.R_alloc | apply Kd.R_drewN | apply Kd.R_drew)); exact (Kd.R_mono (Kd.R_far (p := ⟨gb165, 3, none⟩) (Kd.R_types HO176.out BK165.out (by decide)) (fun _ hk => hk.2) (.string t179)) (fun _ h_ => h_.1))) (by decide)) hk (fun _ h => h.2)) (fun _ h => h.1)); have n4_ := Ak (Kd.R_lower ho0 (keep_size (w := w) (g := g) (row := none) Z22)); have n5_ := Ak (KeepBut.trans Z22 hk (.inl rfl)); have n6_ := Ak (hb); have n7_ := Ak (hi); clear BK164; clear BK165; clear HO171; clear HO176; clear HK; clear HB; clear HI0; have BK164 := n0_; have BK165 := n1_; have HO171 := n2_; have HO176 := n3_; have HO184 := n4_; have HK := n5_; have HB := n6_; have HI0 := n7_; clear n0_ n1_ n2_ n3_ n4_ n5_ n6_ n7_; (try clear hb); (try clear hb2); (try clear hk); (try clear hi); (try clear ho0); obtain ⟨Ao22, co22, eo22⟩ := Kd.R_slice HO184.out; subst eo22; have hcz23_0 : w21.cell? ⟨gb165, 0, none⟩ = some (.int .i64 t166) := (blk_cell BK165.out 0).trans rfl; have hcz23_1 : w21.cell? ⟨gb165, 1, none⟩ = some (.slice Ao14 t169.length co14) := (blk_cell BK165.out 1).trans rfl; have hcz23_2 : w21.cell? ⟨gb165, 2, none⟩ = some (.slice Ao17 t174.length co17) := (blk_cell BK165.out 2).trans rfl; have hcz23_3 : w21.cell? ⟨gb165, 3, none⟩ = some (.string t179) := (blk_cell BK165.out 3).trans rfl; have hcz23_4 : w21.cell? ⟨gb165, 4, none⟩ = some (.slice none 0 0) := (blk_cell BK165.out 4).trans rfl; have hfz23_0 := bfz BK165.out 0; have hfz23_1 := bfz BK165.out 1; have hfz23_2 := bfz BK165.out 2; have hfz23_3 := bfz BK165.out 3; have hfz23_4 := bfz BK165.out 4; have hnb24 := NB164_0.out; have hnc24 := NB0_164.out; have hcz25_0 : w21.cell? ⟨gb164, 0, none⟩ = some (.int .i64 0) := (blk_cell BK164.out 0).trans rfl; have hcz25_1 : w21.cell? ⟨gb164, 1, none⟩ = some (.slice none 0 0) := (blk_cell BK164.out 1).trans rfl; have hcz25_2 : w21.cell? ⟨gb164, 2, none⟩ = some (.slice none 0 0) := (blk_cell BK164.out 2).trans rfl; have hcz25_3 : w21.cell? ⟨gb164, 3, none⟩ = some (.string (⟨#[]⟩ : ByteArray)) := (blk_cell BK164.out 3).trans rfl; have hcz25_4 : w21.cell? ⟨gb164, 4, none⟩ = some (.slice none 0 0) := (blk_cell BK164.out 4).trans rfl; have hfz25_0 := bfz BK164.out 0; have hfz25_1 := bfz BK164.out 1; have hfz25_2 := bfz BK164.out 2; have hfz25_3 := bfz BK164.out 3; have hfz25_4 := bfz BK164.out 4))
 refine bodyPost_ret (results_cell_row rfl _ _ gb164 35 #[.int .i64 t166, .slice Ao14 t169.length co14, .slice Ao17 t174.length co17, .string t179, .slice Ao22 t182.length co22] (0, 0) _ rfl (by refine bz ?_; refine blk_put (cs := #[.int .i64 t166, .slice Ao14 t169.length co14, .slice Ao17 t174.length co17, .string t179, .slice none 0 0]) ?_ 4 _ rfl; refine bz ?_; refine blk_put (cs := #[.int .i64 t166, .slice Ao14 t169.length co14, .slice Ao17 t174.length co17, .string (⟨#[]⟩ : ByteArray), .slice none 0 0]) ?_ 3 _ rfl; refine bz ?_; refine blk_put (cs := #[.int .i64 t166, .slice Ao14 t169.length co14, .slice none 0 0, .string (⟨#[]⟩ : ByteArray), .slice none 0 0]) ?_ 2 _ rfl; refine bz ?_; refine blk_put (cs := #[.int .i64 t166, .slice none 0 0, .slice none 0 0, .string (⟨#[]⟩ : ByteArray), .slice none 0 0]) ?_ 1 _ rfl; refine bz ?_; refine blk_put (cs := #[.int .i64 0, .slice none 0 0, .slice none 0 0, .string (⟨#[]⟩ : ByteArray), .slice none 0 0]) ?_ 0 _ rfl; refine bz ?_; refine blk_far ?_ NB164_165.out _; refine bz ?_; exact BK164.out) Tryz.underlying35 rfl Z76) rfl ?_
 exact ⟨_, _, _, Z6, by (with_reducible repeat (first | apply Kd.R_alloc | apply Kd.R_drewN | apply Kd.R_drew)); exact Kd.R_mono (Kd.R_far (p := ⟨gb164, 4, none⟩) (Kd.R_far (p := ⟨gb164, 3, none⟩) (Kd.R_far (p := ⟨gb164, 2, none⟩) (Kd.R_far (p := ⟨gb164, 1, none⟩) (Kd.R_far (p := ⟨gb164, 0, none⟩) (Kd.R_far (p := ⟨gb165, 4, none⟩) (Kd.R_types (Kd.R_types HO171.out BK165.out (by decide)) BK164.out (by decide)) (fun _ hk => hk.1.2) (.slice Ao22 t182.length co22)) (fun _ hk => hk.2) (.int .i64 t166)) (fun _ hk => hk.2) (.slice Ao14 t169.length co14)) (fun _ hk => hk.2) (.slice Ao17 t174.length co17)) (fun _ hk => hk.2) (.string t179)) (fun _ hk => hk.2) (.slice Ao22 t182.length co22)) (fun _ hk => hk.1.1.2), by (with_reducible repeat (first | apply Kd.R_alloc | apply Kd.R_drewN | apply Kd.R_drew)); exact Kd.R_mono (Kd.R_far (p := ⟨gb164, 4, none⟩) (Kd.R_far (p := ⟨gb164, 3, none⟩) (Kd.R_far (p := ⟨gb164, 2, none⟩) (Kd.R_far (p := ⟨gb164, 1, none⟩) (Kd.R_far (p := ⟨gb164, 0, none⟩) (Kd.R_far (p := ⟨gb165, 4, none⟩) (Kd.R_types (Kd.R_types HO176.out BK165.out (by decide)) BK164.out (by decide)) (fun _ hk => hk.1.2) (.slice Ao22 t182.length co22)) (fun _ hk => hk.2) (.int .i64 t166)) (fun _ hk => hk.2) (.slice Ao14 t169.length co14)) (fun _ hk => hk.2) (.slice Ao17 t174.length co17)) (fun _ hk => hk.2) (.string t179)) (fun _ hk => hk.2) (.slice Ao22 t182.length co22)) (fun _ hk => hk.1.1.2), by (with_reducible repeat (first | apply Kd.R_alloc | apply Kd.R_drewN | apply Kd.R_drew)); exact Kd.R_mono (Kd.R_far (p := ⟨gb164, 4, none⟩) (Kd.R_far (p := ⟨gb164, 3, none⟩) (Kd.R_far (p := ⟨gb164, 2, none⟩) (Kd.R_far (p := ⟨gb164, 1, none⟩) (Kd.R_far (p := ⟨gb164, 0, none⟩) (Kd.R_far (p := ⟨gb165, 4, none⟩) (Kd.R_types (Kd.R_types HO184.out BK165.out (by decide)) BK164.out (by decide)) (fun _ hk => hk.1.2) (.slice Ao22 t182.length co22)) (fun _ hk => hk.2) (.int .i64 t166)) (fun _ hk => hk.2) (.slice Ao14 t169.length co14)) (fun _ hk => hk.2) (.slice Ao17 t174.length co17)) (fun _ hk => hk.2) (.string t179)) (fun _ hk => hk.2) (.slice Ao22 t182.length co22)) (fun _ hk => trivial), Z34, Z37, Z22⟩
mutual
def api_Commit.j0 : Nat → Int → Bool → List Int → Int → Bool → Option ((List (S35)) × Int × Bool)
 | 0, _, _, _, _, _ => none
 | k + 1, x5, x31, x1000, x1001, x1002 => if x31 = true then (some (([] : List (S35)), x1001, true)) else (api_Commit.l0 k x5 ([] : List (S35)) 0 x1000 x1001 x1002)
def api_Commit.l0 : Nat → Int → List (S35) → Int → List Int → Int → Bool → Option ((List (S35)) × Int × Bool)
 | 0, _, _, _, _, _, _ => none
 | k + 1, x5, x6, x7, x1000, x1001, x1002 => if x7 < x5 then (if x1002 = true then (some (x6, x1001, x1002)) else ((wr_commit.f k x1000 x1001 x1002).bind fun bt190 => (if x6.length < 1466015503701 then (api_Commit.l0 k x5 (x6 ++ [(⟨bt190.1, bt190.2.1, bt190.2.2.1, bt190.2.2.2.1, bt190.2.2.2.2.1⟩ : S35)]) (wrap64 (x7 + 1)) x1000 bt190.2.2.2.2.2.1 bt190.2.2.2.2.2.2) else (none)))) else (some (x6, x1001, x1002))
end
def api_Commit.f (k : Nat) (s0_0 : List Int) (s0_1 : Int) (s0_2 : Bool) : Option ((List (S35)) × Int × Bool) := (wr_number.f k s0_0 s0_1 s0_2).bind fun bt187 => (if bt187.2.2 = true then (api_Commit.j0 k bt187.1 true s0_0 bt187.2.1 bt187.2.2) else (if bt187.1 < 0 then (api_Commit.j0 k bt187.1 true s0_0 bt187.2.1 bt187.2.2) else (api_Commit.j0 k bt187.1 (decide (bt187.1 > (wrap64 ((s0_0.length : Int) - bt187.2.1)))) s0_0 bt187.2.1 bt187.2.2)))
set_option maxHeartbeats 8000000 in
set_option maxRecDepth 100000 in
theorem api_Commit.calls (k : Nat) (g : Nat) (s0_0 : List Int) (s0_1 : Int) (s0_2 : Bool) (r1 : List (S35)) (r2 : Int) (r3 : Bool) (w0 w : World) (hI : IsS77 w0 w g s0_0 s0_1 s0_2) (hB : Below w0.heap.size w0 w) (h : api_Commit.f k s0_0 s0_1 s0_2 = some (r1, r2, r3)) :
  Calls Tryz.prog 34 #[.pointer (some ⟨g, 0, none⟩), .func (.func 35) #[.pointer (some ⟨g, 0, none⟩)] #[]] w fun e w' => ∃ v0_ : Value, e = .returned (v0_) ∧ Kd.S k35 35 w' w.heap.size (fun _ => True) v0_ r1 ∧ IsS77 w0 w' g s0_0 r2 r3 ∧ Below w0.heap.size w0 w' ∧ KeepBut w w' g none := by
 have HI0 := Ak hI
 have HK := Ak (KeepBut.refl w g none)
 have HL := Ak hB.size
 clear hI
 have HW0 := Ak hB.size
 have HB := Ak hB
 clear hB
 have H : ((wr_number.f k s0_0 s0_1 s0_2).bind fun bt187 => (if bt187.2.2 = true then (api_Commit.j0 k bt187.1 true s0_0 bt187.2.1 bt187.2.2) else (if bt187.1 < 0 then (api_Commit.j0 k bt187.1 true s0_0 bt187.2.1 bt187.2.2) else (api_Commit.j0 k bt187.1 (decide (bt187.1 > (wrap64 ((s0_0.length : Int) - bt187.2.1)))) s0_0 bt187.2.1 bt187.2.2)))) = some (r1, r2, r3) := h
 clear h
 replace H := Option.bind_eq_some_iff.mp H
 obtain ⟨⟨t187, t188, t189⟩, A20, H⟩ := H
 replace H : (if t189 = true then (api_Commit.j0 k t187 true s0_0 t188 t189) else (if t187 < 0 then (api_Commit.j0 k t187 true s0_0 t188 t189) else (api_Commit.j0 k t187 (decide (t187 > (wrap64 ((s0_0.length : Int) - t188)))) s0_0 t188 t189))) = some (r1, r2, r3) := H
 have A2 := Ak A20
 clear A20
 have HC3 := Ak H
 clear H
 go_enter Tryz.func34, Tryz.ntmps34
 go_upto_region 2 with (first | (go_at_call 33; (with_reducible refine (wr_number.calls k g s0_0 s0_1 s0_2 t187 t188 t189 w0 _ ?side1 ?side2 A2.out).mono ?_); (case side1 => exact Z3); (case side2 => exact Z2); rintro e w4 ⟨rfl, hi, hb, hk⟩; have n0_ := Ak (KeepBut.trans Z0 hk (.inl rfl)); have n1_ := Ak (hb); have n2_ := Ak (hi); clear HK; clear HB; clear HI0; have HK := n0_; have HB := n1_; have HI0 := n2_; clear n0_ n1_ n2_; (try clear hb); (try clear hb2); (try clear hk); (try clear hi)))
 repeat (go_quiet (first | (go_at_call 33; (with_reducible refine (wr_number.calls k g s0_0 s0_1 s0_2 t187 t188 t189 w0 _ ?side1 ?side2 A2.out).mono ?_); (case side1 => exact Z3); (case side2 => exact Z2); rintro e w4 ⟨rfl, hi, hb, hk⟩; have n0_ := Ak (KeepBut.trans Z0 hk (.inl rfl)); have n1_ := Ak (hb); have n2_ := Ak (hi); clear HK; clear HB; clear HI0; have HK := n0_; have HB := n1_; have HI0 := n2_; clear n0_ n1_ n2_; (try clear hb); (try clear hb2); (try clear hk); (try clear hi))); go_upto_region 2 with (first | (go_at_call 33; (with_reducible refine (wr_number.calls k g s0_0 s0_1 s0_2 t187 t188 t189 w0 _ ?side1 ?side2 A2.out).mono ?_); (case side1 => exact Z3); (case side2 => exact Z2); rintro e w4 ⟨rfl, hi, hb, hk⟩; have n0_ := Ak (KeepBut.trans Z0 hk (.inl rfl)); have n1_ := Ak (hb); have n2_ := Ak (hi); clear HK; clear HB; clear HI0; have HK := n0_; have HB := n1_; have HI0 := n2_; clear n0_ n1_ n2_; (try clear hb); (try clear hb2); (try clear hk); (try clear hi))))
 (try simp only [Act.put, List.setIfInBounds_toArray, List.set_cons_zero, List.set_cons_succ])
 go_cut [31] (fun v31 wc => ∃ (kq : Nat) (x31_2 : Bool), v31 = .bool x31_2 ∧ Aside0 (api_Commit.j0 kq t187 x31_2 s0_0 t188 t189 = some (r1, r2, r3)) ∧ Aside0 (kq ≤ k) ∧ Aside0 (IsS77 w0 wc g s0_0 t188 t189) ∧ Aside0 (KeepBut w wc g none) ∧ Aside0 (Below w0.heap.size w0 wc))
 case first =>
  have H := HC3.out
  clear HC3
  by_cases c5 : t189 = true
  ·subst c5
   have H1 : (api_Commit.j0 k t187 true s0_0 t188 true) = some (r1, r2, r3) := by rw [if_pos rfl] at H; exact H
   clear H
   have H := H1
   clear H1
   have H' := Ak H
   clear H
   obtain ⟨ASz6_0, cSz6_0, HGz6, hgz6, HSz6_0⟩ := HI0.out
   have hcz6_0 := cellS77_0 HGz6
   have hcz6_1 := cellS77_1 HGz6
   have hcz6_2 := cellS77_2 HGz6
   have hfz6_1 := bfz HGz6 1
   have hfz6_2 := bfz HGz6 2
   clear HGz6 hgz6
   go_wp2
   repeat (go_quiet (fail); try go_wp2)
   go_meet
   case rel => exact ⟨_, (true), Z11, H', ⟨Z63⟩, ⟨Z3⟩, ⟨Z0⟩, ⟨Z2⟩⟩
  ·replace c5 := Bool.eq_false_iff.mpr c5
   subst c5
   have H1 : (if t187 < 0 then (api_Commit.j0 k t187 true s0_0 t188 false) else (api_Commit.j0 k t187 (decide (t187 > (wrap64 ((s0_0.length : Int) - t188)))) s0_0 t188 false)) = some (r1, r2, r3) := by rw [if_neg (show ¬ (false = true) by decide)] at H; exact H
   clear H
   have H := H1
   clear H1
   by_cases c7 : t187 < 0
   ·rw [if_pos c7] at H
    have c7b0 : decide (t187 < 0) = true := decide_eq_true c7
    clear c7
    (first | rw [c7b0] | (simp only [i64_w, i32_w]; rw [c7b0]) | skip)
    have H' := Ak H
    clear H
    obtain ⟨ASz8_0, cSz8_0, HGz8, hgz8, HSz8_0⟩ := HI0.out
    have hcz8_0 := cellS77_0 HGz8
    have hcz8_1 := cellS77_1 HGz8
    have hcz8_2 := cellS77_2 HGz8
    have hfz8_1 := bfz HGz8 1
    have hfz8_2 := bfz HGz8 2
    clear HGz8 hgz8
    go_wp2
    repeat (go_quiet (fail); try go_wp2)
    go_meet
    case rel => exact ⟨_, (true), Z11, H', ⟨Z63⟩, ⟨Z3⟩, ⟨Z0⟩, ⟨Z2⟩⟩
   ·rw [if_neg c7] at H
    have c7b0 : decide (t187 < 0) = false := decide_eq_false c7
    clear c7
    (first | rw [c7b0] | (simp only [i64_w, i32_w]; rw [c7b0]) | skip)
    have H' := Ak H
    clear H
    obtain ⟨ASz9_0, cSz9_0, HGz9, hgz9, HSz9_0⟩ := HI0.out
    have hcz9_0 := cellS77_0 HGz9
    have hcz9_1 := cellS77_1 HGz9
    have hcz9_2 := cellS77_2 HGz9
    have hfz9_1 := bfz HGz9 1
    have hfz9_2 := bfz HGz9 2
    clear HGz9 hgz9
    go_wp2
    repeat (go_quiet (fail); try go_wp2)
    go_meet
    case rel => exact ⟨_, (decide (t187 > (wrap64 ((s0_0.length : Int) - t188)))), Z11, H', ⟨Z63⟩, ⟨Z3⟩, ⟨Z0⟩, ⟨Z2⟩⟩
 case rest =>
  clear HC3
  try clear p2
  try clear c3
  try clear c5
  try clear p6
  try clear c7
  try clear c7b0
  try clear hcz6_0
  try clear hcz6_1
  try clear hcz6_2
  try clear hcz8_0
  try clear hcz8_1
  try clear hcz8_2
  try clear hcz9_0
  try clear hcz9_1
  try clear hcz9_2
  try clear hfz6_1
  try clear hfz6_2
  try clear hfz8_1
  try clear hfz8_2
  try clear hfz9_1
  try clear hfz9_2
  obtain ⟨kq, x31_2, rfl, HA, HJ2, HI0, HK, HB⟩ := hcut
  cases kq with
  | zero => exact absurd HA.out (by simp [api_Commit.j0])
  | succ kj2 =>
   have H := HA.out
   clear HA
   simp only [api_Commit.j0] at H
   by_cases c10 : x31_2 = true
   ·subst c10
    have H1 : (some (([] : List (S35)), t188, true)) = some (r1, r2, r3) := by rw [if_pos rfl] at H; exact H
    clear H
    have H := H1
    clear H1
    simp only [Option.some.injEq, Prod.mk.injEq] at H
    obtain ⟨rfl, rfl, rfl⟩ := H
    obtain ⟨ASz11_0, cSz11_0, HGz11, hgz11, HSz11_0⟩ := HI0.out
    have hcz11_0 := cellS77_0 HGz11
    have hcz11_1 := cellS77_1 HGz11
    have hcz11_2 := cellS77_2 HGz11
    have hfz11_1 := bfz HGz11 1
    have hfz11_2 := bfz HGz11 2
    clear HGz11 hgz11
    go_wp2
    repeat (go_quiet (fail); try go_wp2)
    go_ret
    exact ⟨_, Z6, Z23, Z3, Z2, Z0⟩
   ·replace c10 := Bool.eq_false_iff.mpr c10
    subst c10
    have H1 : (api_Commit.l0 kj2 t187 ([] : List (S35)) 0 s0_0 t188 t189) = some (r1, r2, r3) := by rw [if_neg (show ¬ (false = true) by decide)] at H; exact H
    clear H
    have H := H1
    clear H1
    have H' := Ak H
    clear H
    go_wp2
    repeat (go_quiet (fail); try go_wp2)
    go_loopg [6, 7] kj2 (fun kq v6 v7 w' => ∃ (x6_2 : List (S35)) (x7_2 : Int) (x1001_2 : Int) (x1002_2 : Bool), v7 = .int .i64 x7_2 ∧ Aside0 (api_Commit.l0 kq t187 x6_2 x7_2 s0_0 x1001_2 x1002_2 = some (r1, r2, r3)) ∧ Aside0 (kq ≤ kj2) ∧ Aside0 (Kd.S k35 35 w' w.heap.size (fun _ => True) v6 x6_2) ∧ Aside0 (IsS77 w0 w' g s0_0 x1001_2 x1002_2) ∧ Aside0 (KeepBut w w' g none) ∧ Aside0 (Below w0.heap.size w0 w'))
    case atStart => exact ⟨(([] : List (S35))), (0), (t188), (t189), Z11, H', ⟨Nat.le_refl _⟩, ⟨Z23⟩, ⟨Z3⟩, ⟨Z0⟩, ⟨Z2⟩⟩
    case round =>
     clear H'
     try clear c1
     try clear p2
     try clear c3
     try clear c5
     try clear p6
     try clear c7
     try clear c7b0
     try clear c10
     try clear hcz11_0
     try clear hcz11_1
     try clear hcz11_2
     try clear hcz6_0
     try clear hcz6_1
     try clear hcz6_2
     try clear hcz8_0
     try clear hcz8_1
     try clear hcz8_2
     try clear hcz9_0
     try clear hcz9_1
     try clear hcz9_2
     try clear hfz11_1
     try clear hfz11_2
     try clear hfz6_1
     try clear hfz6_2
     try clear hfz8_1
     try clear hfz8_2
     try clear hfz9_1
     try clear hfz9_2
     try clear p2
     try clear p6
     obtain ⟨x6_2, x7_2, x1001_2, x1002_2, rfl, HA, HK2, HO_6, HI0, HK, HB⟩ := hrel
     cases gk with
     | zero => exact absurd HA.out (by simp [api_Commit.l0])
     | succ k2 =>
      have H := HA.out
      clear HA
      simp only [api_Commit.l0] at H
      by_cases c12 : x7_2 < t187
      ·rw [if_pos c12] at H
       have c12b0 : decide (x7_2 < t187) = true := decide_eq_true c12
       clear c12
       by_cases c13 : x1002_2 = true
       ·subst c13
        have H1 : (some (x6_2, x1001_2, true)) = some (r1, r2, r3) := by rw [if_pos rfl] at H; exact H
        clear H
        have H := H1
        clear H1
        simp only [Option.some.injEq, Prod.mk.injEq] at H
        obtain ⟨rfl, rfl, rfl⟩ := H
        obtain ⟨ASz14_0, cSz14_0, HGz14, hgz14, HSz14_0⟩ := HI0.out
        have hcz14_0 := cellS77_0 HGz14
        have hcz14_1 := cellS77_1 HGz14
        have hcz14_2 := cellS77_2 HGz14
        have hfz14_1 := bfz HGz14 1
        have hfz14_2 := bfz HGz14 2
        clear HGz14 hgz14
        go_wp2
        repeat (go_quiet (fail); try go_wp2)
        go_ret
        exact ⟨_, Z6, Z75, Z3, Z2, Z0⟩
       ·replace c13 := Bool.eq_false_iff.mpr c13
        subst c13
        have H1 : ((wr_commit.f k2 s0_0 x1001_2 false).bind fun bt190 => (if x6_2.length < 1466015503701 then (api_Commit.l0 k2 t187 (x6_2 ++ [(⟨bt190.1, bt190.2.1, bt190.2.2.1, bt190.2.2.2.1, bt190.2.2.2.2.1⟩ : S35)]) (wrap64 (x7_2 + 1)) s0_0 bt190.2.2.2.2.2.1 bt190.2.2.2.2.2.2) else (none))) = some (r1, r2, r3) := by rw [if_neg (show ¬ (false = true) by decide)] at H; exact H
        clear H
        have H := H1
        clear H1
        replace H := Option.bind_eq_some_iff.mp H
        obtain ⟨⟨t190, t191, t194, t197, t198, t201, t202⟩, A150, H⟩ := H
        replace H : (if x6_2.length < 1466015503701 then (api_Commit.l0 k2 t187 (x6_2 ++ [(⟨t190, t191, t194, t197, t198⟩ : S35)]) (wrap64 (x7_2 + 1)) s0_0 t201 t202) else (none)) = some (r1, r2, r3) := H
        have A15 := Ak A150
        clear A150
        by_cases c16 : x6_2.length < 1466015503701
        ·rw [if_pos c16] at H
         have LMc16 := Ak c16
         clear c16
         obtain ⟨y203, hy203⟩ : ∃ y_ : List (S35), y_ = (x6_2 ++ [(⟨t190, t191, t194, t197, t198⟩ : S35)]) := ⟨_, rfl⟩
         replace H : (api_Commit.l0 k2 t187 y203 (wrap64 (x7_2 + 1)) s0_0 t201 t202) = some (r1, r2, r3) := by first | (rw [hy203]; with_reducible exact H) | (have H2_ := (Option.bind_some _ _).symm.trans H; rw [hy203]; with_reducible exact H2_) | (have H2_ := (Option.bind_some _ _).symm.trans H; with_reducible exact H2_) | with_reducible exact H | (rw [hy203]; exact H) | exact H
         have Ny203 := Ak hy203
         clear hy203
         have H' := Ak H
         clear H
         obtain ⟨ASz17_0, cSz17_0, HGz17, hgz17, HSz17_0⟩ := HI0.out
         have hcz17_0 := cellS77_0 HGz17
         have hcz17_1 := cellS77_1 HGz17
         have hcz17_2 := cellS77_2 HGz17
         have hfz17_1 := bfz HGz17 1
         have hfz17_2 := bfz HGz17 2
         clear HGz17 hgz17
         go_wp2_with (first | (go_at_call 35; (with_reducible refine (wr_commit.calls k2 g s0_0 x1001_2 false t190 t191 t194 t197 t198 t201 t202 w0 _ ?side1 ?side2 A15.out).mono ?_); (case side1 => exact Z3); (case side2 => exact Z2); rintro e w18 ⟨v192, v195, v199, rfl, ho0, ho1, ho2, hi, hb, hk⟩; have n0_ := Ak (Kd.S_mono (Kd.S_told (Kd.S_told (Kd.S_told (Kd.S_oldK (IsS77.apartS (show IsS77 w0 _ g s0_0 x1001_2 false from by repeat (first | (with_reducible first | exact HI0.out | apply IsS77.alloc | apply IsS77.drewN | apply IsS77.drew | apply IsS77.set_1 | apply IsS77.set_2) | exact HI0.out)) Z75 (by decide)) hk) (Kd.R_base ho0)) (Kd.R_base ho1)) (Kd.R_base ho2)) (fun _ h_ => h_.1)); have n1_ := Ak (Kd.R_lower ho0 (keep_size (w := w) (g := g) (row := none) Z0)); have n2_ := Ak (Kd.R_lower ho1 (keep_size (w := w) (g := g) (row := none) Z0)); have n3_ := Ak (Kd.R_lower ho2 (keep_size (w := w) (g := g) (row := none) Z0)); have n4_ := Ak (KeepBut.trans Z0 hk (.inl rfl)); have n5_ := Ak (hb); have n6_ := Ak (hi); clear HO_6; clear HK; clear HB; clear HI0; have HO_6 := n0_; have HO193 := n1_; have HO196 := n2_; have HO200 := n3_; have HK := n4_; have HB := n5_; have HI0 := n6_; clear n0_ n1_ n2_ n3_ n4_ n5_ n6_; (try clear hb); (try clear hb2); (try clear hk); (try clear hi); (try clear ho0); (try clear ho1); (try clear ho2); obtain ⟨Ao20, co20, eo20⟩ := Kd.R_slice HO193.out; subst eo20; obtain ⟨Ao21, co21, eo21⟩ := Kd.R_slice HO196.out; subst eo21; obtain ⟨Ao22, co22, eo22⟩ := Kd.R_slice HO200.out; subst eo22) | ((with_reducible refine gate_builtin (b := .append) (xs := #[.tmp 47, .tmp 50]) rfl ?_); (try (refine gate_guard (by rfl) ?_; dsimp only)); at_builtin; refine Kd.S_append k35 w.heap.size rfl (.tmp 47) (.tmp 50) 25 35 (.agg #[(.int .i64 0), (.slice none 0 0), (.slice none 0 0), (.string ⟨#[]⟩), (.slice none 0 0)]) 96 rfl Tryz.underlying25 info35 rfl (by decide) (by omega) u6 x6_2 (⟨t190, t191, t194, t197, t198⟩ : S35) [.int .i64 t190, .slice Ao20 t191.length co20, .slice Ao21 t194.length co21, .string t197, .slice Ao22 t198.length co22] (fun _ => True) (fun k_ => some k_ = (.slice Ao20 t191.length co20 : Value).ownBlock ∨ some k_ = (.slice Ao21 t194.length co21 : Value).ownBlock ∨ some k_ = (.slice Ao22 t198.length co22 : Value).ownBlock) rfl rfl ?aP (fun k_ hk_ => hk_.elim (fun h_ => ((Kd.R_mono (ok' := fun k_ => ((fun _ => True)) k_ ∧ some k_ ≠ (u6 : Value).ownBlock) (Kd.R_apart' (HO193.out) (Kd.S_typed HO_6.out) (by decide)) (fun k_ hk => ⟨trivial, hk.2⟩))).1 k_ h_.symm) (fun h_ => h_.elim (fun h_ => ((Kd.R_mono (ok' := fun k_ => ((fun _ => True)) k_ ∧ some k_ ≠ (u6 : Value).ownBlock) (Kd.R_apart' (HO196.out) (Kd.S_typed HO_6.out) (by decide)) (fun k_ hk => ⟨trivial, hk.2⟩))).1 k_ h_.symm) (fun h_ => ((Kd.R_mono (ok' := fun k_ => ((fun _ => True)) k_ ∧ some k_ ≠ (u6 : Value).ownBlock) (Kd.R_apart' (HO200.out) (Kd.S_typed HO_6.out) (by decide)) (fun k_ hk => ⟨trivial, hk.2⟩))).1 k_ h_.symm))) ?aF ?aO (Below.refl _ _) ?aS ?aL ?_; (case aP => exact Z25); (case aF => exact (fun _ _ => trivial)); (case aO => exact Z65); (case aS => exact Z78); (case aL => have := LMc16.out; omega); intro v204 w19 ho hb hg hat; rw [← Ny203.out] at ho; have n0_ := Ak (IsS77.grown Z3 hg (IsS77.own_neS HI0.out HO_6.out (by decide))); have n1_ := Ak (below_weaken Z2 HL.out hb); have n2_ := Ak (KeepBut.trans Z0 (KeepBut.of_grown hg g) (Kd.S_base2 HO_6.out)); have n3_ := Ak (ho); clear HI0; clear HB; clear HK; clear HO_6; clear HO193; clear HO196; clear HO200; have HI0 := n0_; have HB := n1_; have HK := n2_; have HO205 := n3_; clear n0_ n1_ n2_ n3_; clear ho hb hg hat))
         repeat (go_quiet (first | (go_at_call 35; (with_reducible refine (wr_commit.calls k2 g s0_0 x1001_2 false t190 t191 t194 t197 t198 t201 t202 w0 _ ?side1 ?side2 A15.out).mono ?_); (case side1 => exact Z3); (case side2 => exact Z2); rintro e w18 ⟨v192, v195, v199, rfl, ho0, ho1, ho2, hi, hb, hk⟩; have n0_ := Ak (Kd.S_mono (Kd.S_told (Kd.S_told (Kd.S_told (Kd.S_oldK (IsS77.apartS (show IsS77 w0 _ g s0_0 x1001_2 false from by repeat (first | (with_reducible first | exact HI0.out | apply IsS77.alloc | apply IsS77.drewN | apply IsS77.drew | apply IsS77.set_1 | apply IsS77.set_2) | exact HI0.out)) Z75 (by decide)) hk) (Kd.R_base ho0)) (Kd.R_base ho1)) (Kd.R_base ho2)) (fun _ h_ => h_.1)); have n1_ := Ak (Kd.R_lower ho0 (keep_size (w := w) (g := g) (row := none) Z0)); have n2_ := Ak (Kd.R_lower ho1 (keep_size (w := w) (g := g) (row := none) Z0)); have n3_ := Ak (Kd.R_lower ho2 (keep_size (w := w) (g := g) (row := none) Z0)); have n4_ := Ak (KeepBut.trans Z0 hk (.inl rfl)); have n5_ := Ak (hb); have n6_ := Ak (hi); clear HO_6; clear HK; clear HB; clear HI0; have HO_6 := n0_; have HO193 := n1_; have HO196 := n2_; have HO200 := n3_; have HK := n4_; have HB := n5_; have HI0 := n6_; clear n0_ n1_ n2_ n3_ n4_ n5_ n6_; (try clear hb); (try clear hb2); (try clear hk); (try clear hi); (try clear ho0); (try clear ho1); (try clear ho2); obtain ⟨Ao20, co20, eo20⟩ := Kd.R_slice HO193.out; subst eo20; obtain ⟨Ao21, co21, eo21⟩ := Kd.R_slice HO196.out; subst eo21; obtain ⟨Ao22, co22, eo22⟩ := Kd.R_slice HO200.out; subst eo22) | ((with_reducible refine gate_builtin (b := .append) (xs := #[.tmp 47, .tmp 50]) rfl ?_); (try (refine gate_guard (by rfl) ?_; dsimp only)); at_builtin; refine Kd.S_append k35 w.heap.size rfl (.tmp 47) (.tmp 50) 25 35 (.agg #[(.int .i64 0), (.slice none 0 0), (.slice none 0 0), (.string ⟨#[]⟩), (.slice none 0 0)]) 96 rfl Tryz.underlying25 info35 rfl (by decide) (by omega) u6 x6_2 (⟨t190, t191, t194, t197, t198⟩ : S35) [.int .i64 t190, .slice Ao20 t191.length co20, .slice Ao21 t194.length co21, .string t197, .slice Ao22 t198.length co22] (fun _ => True) (fun k_ => some k_ = (.slice Ao20 t191.length co20 : Value).ownBlock ∨ some k_ = (.slice Ao21 t194.length co21 : Value).ownBlock ∨ some k_ = (.slice Ao22 t198.length co22 : Value).ownBlock) rfl rfl ?aP (fun k_ hk_ => hk_.elim (fun h_ => ((Kd.R_mono (ok' := fun k_ => ((fun _ => True)) k_ ∧ some k_ ≠ (u6 : Value).ownBlock) (Kd.R_apart' (HO193.out) (Kd.S_typed HO_6.out) (by decide)) (fun k_ hk => ⟨trivial, hk.2⟩))).1 k_ h_.symm) (fun h_ => h_.elim (fun h_ => ((Kd.R_mono (ok' := fun k_ => ((fun _ => True)) k_ ∧ some k_ ≠ (u6 : Value).ownBlock) (Kd.R_apart' (HO196.out) (Kd.S_typed HO_6.out) (by decide)) (fun k_ hk => ⟨trivial, hk.2⟩))).1 k_ h_.symm) (fun h_ => ((Kd.R_mono (ok' := fun k_ => ((fun _ => True)) k_ ∧ some k_ ≠ (u6 : Value).ownBlock) (Kd.R_apart' (HO200.out) (Kd.S_typed HO_6.out) (by decide)) (fun k_ hk => ⟨trivial, hk.2⟩))).1 k_ h_.symm))) ?aF ?aO (Below.refl _ _) ?aS ?aL ?_; (case aP => exact Z25); (case aF => exact (fun _ _ => trivial)); (case aO => exact Z65); (case aS => exact Z78); (case aL => have := LMc16.out; omega); intro v204 w19 ho hb hg hat; rw [← Ny203.out] at ho; have n0_ := Ak (IsS77.grown Z3 hg (IsS77.own_neS HI0.out HO_6.out (by decide))); have n1_ := Ak (below_weaken Z2 HL.out hb); have n2_ := Ak (KeepBut.trans Z0 (KeepBut.of_grown hg g) (Kd.S_base2 HO_6.out)); have n3_ := Ak (ho); clear HI0; clear HB; clear HK; clear HO_6; clear HO193; clear HO196; clear HO200; have HI0 := n0_; have HB := n1_; have HK := n2_; have HO205 := n3_; clear n0_ n1_ n2_ n3_; clear ho hb hg hat)); try go_wp2_with (first | (go_at_call 35; (with_reducible refine (wr_commit.calls k2 g s0_0 x1001_2 false t190 t191 t194 t197 t198 t201 t202 w0 _ ?side1 ?side2 A15.out).mono ?_); (case side1 => exact Z3); (case side2 => exact Z2); rintro e w18 ⟨v192, v195, v199, rfl, ho0, ho1, ho2, hi, hb, hk⟩; have n0_ := Ak (Kd.S_mono (Kd.S_told (Kd.S_told (Kd.S_told (Kd.S_oldK (IsS77.apartS (show IsS77 w0 _ g s0_0 x1001_2 false from by repeat (first | (with_reducible first | exact HI0.out | apply IsS77.alloc | apply IsS77.drewN | apply IsS77.drew | apply IsS77.set_1 | apply IsS77.set_2) | exact HI0.out)) Z75 (by decide)) hk) (Kd.R_base ho0)) (Kd.R_base ho1)) (Kd.R_base ho2)) (fun _ h_ => h_.1)); have n1_ := Ak (Kd.R_lower ho0 (keep_size (w := w) (g := g) (row := none) Z0)); have n2_ := Ak (Kd.R_lower ho1 (keep_size (w := w) (g := g) (row := none) Z0)); have n3_ := Ak (Kd.R_lower ho2 (keep_size (w := w) (g := g) (row := none) Z0)); have n4_ := Ak (KeepBut.trans Z0 hk (.inl rfl)); have n5_ := Ak (hb); have n6_ := Ak (hi); clear HO_6; clear HK; clear HB; clear HI0; have HO_6 := n0_; have HO193 := n1_; have HO196 := n2_; have HO200 := n3_; have HK := n4_; have HB := n5_; have HI0 := n6_; clear n0_ n1_ n2_ n3_ n4_ n5_ n6_; (try clear hb); (try clear hb2); (try clear hk); (try clear hi); (try clear ho0); (try clear ho1); (try clear ho2); obtain ⟨Ao20, co20, eo20⟩ := Kd.R_slice HO193.out; subst eo20; obtain ⟨Ao21, co21, eo21⟩ := Kd.R_slice HO196.out; subst eo21; obtain ⟨Ao22, co22, eo22⟩ := Kd.R_slice HO200.out; subst eo22) | ((with_reducible refine gate_builtin (b := .append) (xs := #[.tmp 47, .tmp 50]) rfl ?_); (try (refine gate_guard (by rfl) ?_; dsimp only)); at_builtin; refine Kd.S_append k35 w.heap.size rfl (.tmp 47) (.tmp 50) 25 35 (.agg #[(.int .i64 0), (.slice none 0 0), (.slice none 0 0), (.string ⟨#[]⟩), (.slice none 0 0)]) 96 rfl Tryz.underlying25 info35 rfl (by decide) (by omega) u6 x6_2 (⟨t190, t191, t194, t197, t198⟩ : S35) [.int .i64 t190, .slice Ao20 t191.length co20, .slice Ao21 t194.length co21, .string t197, .slice Ao22 t198.length co22] (fun _ => True) (fun k_ => some k_ = (.slice Ao20 t191.length co20 : Value).ownBlock ∨ some k_ = (.slice Ao21 t194.length co21 : Value).ownBlock ∨ some k_ = (.slice Ao22 t198.length co22 : Value).ownBlock) rfl rfl ?aP (fun k_ hk_ => hk_.elim (fun h_ => ((Kd.R_mono (ok' := fun k_ => ((fun _ => True)) k_ ∧ some k_ ≠ (u6 : Value).ownBlock) (Kd.R_apart' (HO193.out) (Kd.S_typed HO_6.out) (by decide)) (fun k_ hk => ⟨trivial, hk.2⟩))).1 k_ h_.symm) (fun h_ => h_.elim (fun h_ => ((Kd.R_mono (ok' := fun k_ => ((fun _ => True)) k_ ∧ some k_ ≠ (u6 : Value).ownBlock) (Kd.R_apart' (HO196.out) (Kd.S_typed HO_6.out) (by decide)) (fun k_ hk => ⟨trivial, hk.2⟩))).1 k_ h_.symm) (fun h_ => ((Kd.R_mono (ok' := fun k_ => ((fun _ => True)) k_ ∧ some k_ ≠ (u6 : Value).ownBlock) (Kd.R_apart' (HO200.out) (Kd.S_typed HO_6.out) (by decide)) (fun k_ hk => ⟨trivial, hk.2⟩))).1 k_ h_.symm))) ?aF ?aO (Below.refl _ _) ?aS ?aL ?_; (case aP => exact Z25); (case aF => exact (fun _ _ => trivial)); (case aO => exact Z65); (case aS => exact Z78); (case aL => have := LMc16.out; omega); intro v204 w19 ho hb hg hat; rw [← Ny203.out] at ho; have n0_ := Ak (IsS77.grown Z3 hg (IsS77.own_neS HI0.out HO_6.out (by decide))); have n1_ := Ak (below_weaken Z2 HL.out hb); have n2_ := Ak (KeepBut.trans Z0 (KeepBut.of_grown hg g) (Kd.S_base2 HO_6.out)); have n3_ := Ak (ho); clear HI0; clear HB; clear HK; clear HO_6; clear HO193; clear HO196; clear HO200; have HI0 := n0_; have HB := n1_; have HK := n2_; have HO205 := n3_; clear n0_ n1_ n2_ n3_; clear ho hb hg hat)))
         go_roundg k2
         case measure => have := HJ2.out; have := HK2.out; omega
         case rel => exact ⟨(y203), (wrap64 (x7_2 + 1)), (t201), (t202), Z11, H', ⟨by have := HJ2.out; have := HK2.out; omega⟩, ⟨by (with_reducible repeat (first | apply Kd.S_alloc | apply Kd.S_drewN | apply Kd.S_drew)); exact HO205.out⟩, ⟨Z3⟩, ⟨Z0⟩, ⟨Z2⟩⟩
        ·rw [if_neg c16] at H
         exact absurd H (by simp)
      ·rw [if_neg c12] at H
       have c12b0 : decide (x7_2 < t187) = false := decide_eq_false c12
       clear c12
       simp only [Option.some.injEq, Prod.mk.injEq] at H
       obtain ⟨rfl, rfl, rfl⟩ := H
       go_wp2
       repeat (go_quiet (fail); try go_wp2)
       go_ret
       exact ⟨_, Z6, Z75, Z3, Z2, Z0⟩
def wire_GetCommits.f (k : Nat) (l0 : List Int) : Option ((List (S35)) × Int) := (wire_from.f l0 0).bind fun bt206 => ((api_Commit.f k bt206.1 bt206.2.1 bt206.2.2).bind fun bt210 => (if bt210.2.2 = true then (some (([] : List (S35)), 13)) else (if bt210.2.1 = (l0.length : Int) then (some (bt210.1, 0)) else (some (([] : List (S35)), 13)))))
set_option maxHeartbeats 8000000 in
set_option maxRecDepth 100000 in
theorem wire_GetCommits.calls (k : Nat) (A0 : Option Addr) (c0 : Nat) (l0 : List Int) (r1 : List (S35)) (r2 : Int) (w : World) (hr0 : Kd.C (Kd.int .u8) w A0 l0.length l0) (hc0 : l0.length ≤ c0) (h : wire_GetCommits.f k l0 = some (r1, r2)) :
  Calls Tryz.prog 13 #[.slice A0 l0.length c0] w fun e w' => ∃ v0_ : Value, e = .returned (.tuple #[v0_, .int .i64 r2]) ∧ Kd.S k35 35 w' w.heap.size (fun _ => True) v0_ r1 ∧ Below w.heap.size w w' := by
 have HR0 := Ak hr0
 have HC0 := Ak hc0
 clear hr0 hc0
 have HB := Ak (Below.refl w.heap.size w)
 have H : ((wire_from.f l0 0).bind fun bt206 => ((api_Commit.f k bt206.1 bt206.2.1 bt206.2.2).bind fun bt210 => (if bt210.2.2 = true then (some (([] : List (S35)), 13)) else (if bt210.2.1 = (l0.length : Int) then (some (bt210.1, 0)) else (some (([] : List (S35)), 13)))))) = some (r1, r2) := h
 clear h
 replace H := Option.bind_eq_some_iff.mp H
 obtain ⟨⟨t206, t207, t208⟩, A20, H⟩ := H
 replace H : ((api_Commit.f k t206 t207 t208).bind fun bt210 => (if bt210.2.2 = true then (some (([] : List (S35)), 13)) else (if bt210.2.1 = (l0.length : Int) then (some (bt210.1, 0)) else (some (([] : List (S35)), 13))))) = some (r1, r2) := H
 have A2 := Ak A20
 clear A20
 replace H := Option.bind_eq_some_iff.mp H
 obtain ⟨⟨t210, t213, t214⟩, A30, H⟩ := H
 replace H : (if t214 = true then (some (([] : List (S35)), 13)) else (if t213 = (l0.length : Int) then (some (t210, 0)) else (some (([] : List (S35)), 13)))) = some (r1, r2) := H
 have A3 := Ak A30
 clear A30
 by_cases c4 : t214 = true
 ·subst c4
  have H1 : (some (([] : List (S35)), 13)) = some (r1, r2) := by rw [if_pos rfl] at H; exact H
  clear H
  have H := H1
  clear H1
  simp only [Option.some.injEq, Prod.mk.injEq] at H
  obtain ⟨rfl, rfl⟩ := H
  go_enter Tryz.func13, Tryz.ntmps13
  go_wp2_with (first | ((with_reducible refine gate_callee (f := 32) rfl ?_); refine goesL_ (some 7) rfl rfl Tryz.func32 Z76 rfl #[.slice A0 l0.length c0, .int .i64 0] rfl Z4 ?_; (with_reducible refine (wire_from.calls _ _ l0 0 t206 t207 t208 w _ ?side1 ?side2 ?side3 A2.out).mono ?_); (case side1 => exact Z1); (case side2 => exact HR0.out); (case side3 => exact Z77); rintro e w5 ⟨g209, rfl, hi, hb, hb2⟩; refine ⟨_, rfl, ?_⟩; have n0_ := Ak (hb); have n1_ := Ak (hi); clear HB; have HB := n0_; have HI209 := n1_; clear n0_ n1_; (try clear hb); (try clear hb2); (try clear hk); (try clear hi)) | ((with_reducible refine gate_callee (f := 34) rfl ?_); refine goesL_ (some 11) rfl rfl Tryz.func34 Z76 rfl #[.pointer (some ⟨g209, 0, none⟩), .func (.func 35) #[.pointer (some ⟨g209, 0, none⟩)] #[]] rfl Z4 ?_; (with_reducible refine (api_Commit.calls k g209 t206 t207 t208 t210 t213 true w _ ?side1 ?side2 A3.out).mono ?_); (case side1 => exact Z81); (case side2 => exact Z31); rintro e w6 ⟨v211, rfl, ho0, hi, hb, hk⟩; refine ⟨_, rfl, ?_⟩; have n0_ := Ak (Kd.S_lower ho0 (below_size Z31)); have n1_ := Ak (hb); have n2_ := Ak (hi); clear HB; clear HI209; have HO212 := n0_; have HB := n1_; have HI209 := n2_; clear n0_ n1_ n2_; (try clear hb); (try clear hb2); (try clear hk); (try clear hi); (try clear ho0); obtain ⟨ASz7_0, cSz7_0, HGz7, hgz7, HSz7_0⟩ := HI209.out; have hcz7_0 := cellS77_0 HGz7; have hcz7_1 := cellS77_1 HGz7; have hcz7_2 := cellS77_2 HGz7; have hfz7_1 := bfz HGz7 1; have hfz7_2 := bfz HGz7 2; clear HGz7 hgz7))
  go_ret2
  exact ⟨_, Z6, Z23, Z31⟩
 ·replace c4 := Bool.eq_false_iff.mpr c4
  subst c4
  have H1 : (if t213 = (l0.length : Int) then (some (t210, 0)) else (some (([] : List (S35)), 13))) = some (r1, r2) := by rw [if_neg (show ¬ (false = true) by decide)] at H; exact H
  clear H
  have H := H1
  clear H1
  by_cases c8 : t213 = (l0.length : Int)
  ·rw [if_pos c8] at H
   have c8b0 : (t213 == (l0.length : Int)) = true := beq_iff_eq.mpr c8
   have c8b1 : (t213 != (l0.length : Int)) = false := bne_eq_false_iff_eq.mpr c8
   clear c8
   simp only [Option.some.injEq, Prod.mk.injEq] at H
   obtain ⟨rfl, rfl⟩ := H
   go_enter Tryz.func13, Tryz.ntmps13
   go_wp2_with (first | ((with_reducible refine gate_callee (f := 32) rfl ?_); refine goesL_ (some 7) rfl rfl Tryz.func32 Z76 rfl #[.slice A0 l0.length c0, .int .i64 0] rfl Z4 ?_; (with_reducible refine (wire_from.calls _ _ l0 0 t206 t207 t208 w _ ?side1 ?side2 ?side3 A2.out).mono ?_); (case side1 => exact Z1); (case side2 => exact HR0.out); (case side3 => exact Z77); rintro e w9 ⟨g209, rfl, hi, hb, hb2⟩; refine ⟨_, rfl, ?_⟩; have n0_ := Ak (hb); have n1_ := Ak (hi); clear HB; have HB := n0_; have HI209 := n1_; clear n0_ n1_; (try clear hb); (try clear hb2); (try clear hk); (try clear hi)) | ((with_reducible refine gate_callee (f := 34) rfl ?_); refine goesL_ (some 11) rfl rfl Tryz.func34 Z76 rfl #[.pointer (some ⟨g209, 0, none⟩), .func (.func 35) #[.pointer (some ⟨g209, 0, none⟩)] #[]] rfl Z4 ?_; (with_reducible refine (api_Commit.calls k g209 t206 t207 t208 t210 t213 false w _ ?side1 ?side2 A3.out).mono ?_); (case side1 => exact Z81); (case side2 => exact Z31); rintro e w10 ⟨v211, rfl, ho0, hi, hb, hk⟩; refine ⟨_, rfl, ?_⟩; have n0_ := Ak (Kd.S_lower ho0 (below_size Z31)); have n1_ := Ak (hb); have n2_ := Ak (hi); clear HB; clear HI209; have HO212 := n0_; have HB := n1_; have HI209 := n2_; clear n0_ n1_ n2_; (try clear hb); (try clear hb2); (try clear hk); (try clear hi); (try clear ho0); obtain ⟨ASz11_0, cSz11_0, HGz11, hgz11, HSz11_0⟩ := HI209.out; have hcz11_0 := cellS77_0 HGz11; have hcz11_1 := cellS77_1 HGz11; have hcz11_2 := cellS77_2 HGz11; have hfz11_1 := bfz HGz11 1; have hfz11_2 := bfz HGz11 2; clear HGz11 hgz11))
   go_ret2
   exact ⟨_, Z6, by (with_reducible repeat (first | apply Kd.S_alloc | apply Kd.S_drewN | apply Kd.S_drew)); exact HO212.out, Z31⟩
  ·rw [if_neg c8] at H
   have c8b0 : (t213 == (l0.length : Int)) = false := beq_eq_false_iff_ne.mpr c8
   have c8b1 : (t213 != (l0.length : Int)) = true := bne_iff_ne.mpr c8
   simp only [Option.some.injEq, Prod.mk.injEq] at H
   obtain ⟨rfl, rfl⟩ := H
   go_enter Tryz.func13, Tryz.ntmps13
   go_wp2_with (first | ((with_reducible refine gate_callee (f := 32) rfl ?_); refine goesL_ (some 7) rfl rfl Tryz.func32 Z76 rfl #[.slice A0 l0.length c0, .int .i64 0] rfl Z4 ?_; (with_reducible refine (wire_from.calls _ _ l0 0 t206 t207 t208 w _ ?side1 ?side2 ?side3 A2.out).mono ?_); (case side1 => exact Z1); (case side2 => exact HR0.out); (case side3 => exact Z77); rintro e w12 ⟨g209, rfl, hi, hb, hb2⟩; refine ⟨_, rfl, ?_⟩; have n0_ := Ak (hb); have n1_ := Ak (hi); clear HB; have HB := n0_; have HI209 := n1_; clear n0_ n1_; (try clear hb); (try clear hb2); (try clear hk); (try clear hi)) | ((with_reducible refine gate_callee (f := 34) rfl ?_); refine goesL_ (some 11) rfl rfl Tryz.func34 Z76 rfl #[.pointer (some ⟨g209, 0, none⟩), .func (.func 35) #[.pointer (some ⟨g209, 0, none⟩)] #[]] rfl Z4 ?_; (with_reducible refine (api_Commit.calls k g209 t206 t207 t208 t210 t213 false w _ ?side1 ?side2 A3.out).mono ?_); (case side1 => exact Z81); (case side2 => exact Z31); rintro e w13 ⟨v211, rfl, ho0, hi, hb, hk⟩; refine ⟨_, rfl, ?_⟩; have n0_ := Ak (Kd.S_lower ho0 (below_size Z31)); have n1_ := Ak (hb); have n2_ := Ak (hi); clear HB; clear HI209; have HO212 := n0_; have HB := n1_; have HI209 := n2_; clear n0_ n1_ n2_; (try clear hb); (try clear hb2); (try clear hk); (try clear hi); (try clear ho0); obtain ⟨ASz14_0, cSz14_0, HGz14, hgz14, HSz14_0⟩ := HI209.out; have hcz14_0 := cellS77_0 HGz14; have hcz14_1 := cellS77_1 HGz14; have hcz14_2 := cellS77_2 HGz14; have hfz14_1 := bfz HGz14 1; have hfz14_2 := bfz HGz14 2; clear HGz14 hgz14))
   go_ret2
   exact ⟨_, Z6, Z23, Z31⟩
mutual
def bundle_Parse.j0 : Nat → List Int → Int → Int → Bool → Option (List Int × (List (S35)) × Int)
 | 0, _, _, _, _ => none
 | k + 1, x0, x4, x5, x31 => if x31 = true then (some (([] : List Int), ([] : List (S35)), 13)) else (bundle_Parse.l0 k x0 x5 x4 0 ([] : List Int))
def bundle_Parse.l0 : Nat → List Int → Int → Int → Int → List Int → Option (List Int × (List (S35)) × Int)
 | 0, _, _, _, _, _ => none
 | k + 1, x0, x5, x33, x34, x220000 => if x34 < x33 then ((wire_GetInt.f k x0 x5).bind fun bt220 => (if bt220.2.2 = 0 then (if x220000.length < 17592186044416 then (bundle_Parse.l0 k x0 bt220.2.1 x33 (wrap64 (x34 + 1)) (x220000 ++ [bt220.1])) else (none)) else (some (([] : List Int), ([] : List (S35)), 13)))) else (if 0 ≤ x5 then (if x5 ≤ (x0.length : Int) then ((wire_GetCommits.f k (x0.drop (x5 : Int).toNat)).bind fun bt227 => (if bt227.2 = 0 then (some (x220000, bt227.1, 0)) else (some (([] : List Int), ([] : List (S35)), 13)))) else (none)) else (none))
end
def bundle_Parse.f (k : Nat) (l0 : List Int) : Option (List Int × (List (S35)) × Int) := (wire_GetInt.f k l0 0).bind fun bt216 => (if bt216.2.2 = 0 then (if bt216.1 < 0 then (bundle_Parse.j0 k l0 bt216.1 bt216.2.1 true) else (bundle_Parse.j0 k l0 bt216.1 bt216.2.1 (decide (bt216.1 > (wrap64 ((l0.length : Int) - bt216.2.1)))))) else (bundle_Parse.j0 k l0 bt216.1 bt216.2.1 true))
set_option maxHeartbeats 8000000 in
set_option maxRecDepth 100000 in
theorem bundle_Parse.calls (k : Nat) (A0 : Option Addr) (c0 : Nat) (l0 : List Int) (r1 : List Int) (r2 : List (S35)) (r3 : Int) (w : World) (hr0 : Kd.C (Kd.int .u8) w A0 l0.length l0) (hc0 : l0.length ≤ c0) (h : bundle_Parse.f k l0 = some (r1, r2, r3)) :
  Calls Tryz.prog 5 #[.slice A0 l0.length c0] w fun e w' => ∃ v0_ v1_ : Value, e = .returned (.tuple #[.agg #[v0_, v1_], .int .i64 r3]) ∧ Kd.R (Kd.int .i64) 3 w' w.heap.size (fun _ => True) v0_ r1 ∧ Kd.S k35 35 w' w.heap.size (fun k_ => some k_ ≠ (v0_ : Value).ownBlock) v1_ r2 ∧ Below w.heap.size w w' := by
 have hu27 := Tryz.underlying27
 have HR0 := Ak hr0
 have HC0 := Ak hc0
 clear hr0 hc0
 have HB := Ak (Below.refl w.heap.size w)
 have H : ((wire_GetInt.f k l0 0).bind fun bt216 => (if bt216.2.2 = 0 then (if bt216.1 < 0 then (bundle_Parse.j0 k l0 bt216.1 bt216.2.1 true) else (bundle_Parse.j0 k l0 bt216.1 bt216.2.1 (decide (bt216.1 > (wrap64 ((l0.length : Int) - bt216.2.1)))))) else (bundle_Parse.j0 k l0 bt216.1 bt216.2.1 true))) = some (r1, r2, r3) := h
 clear h
 replace H := Option.bind_eq_some_iff.mp H
 obtain ⟨⟨t216, t217, t218⟩, A20, H⟩ := H
 replace H : (if t218 = 0 then (if t216 < 0 then (bundle_Parse.j0 k l0 t216 t217 true) else (bundle_Parse.j0 k l0 t216 t217 (decide (t216 > (wrap64 ((l0.length : Int) - t217)))))) else (bundle_Parse.j0 k l0 t216 t217 true)) = some (r1, r2, r3) := H
 have A2 := Ak A20
 clear A20
 have HC3 := Ak H
 clear H
 go_enter Tryz.func5, Tryz.ntmps5
 go_upto_region 2 with (first | ((with_reducible refine gate_dst (N := 2) rfl ?_); (try (refine gate_guard (by rfl) ?_; dsimp only)); refine box_event ?hg (N := 2) ?hd (cs := #[.slice none 0 0, .slice none 0 0]) (t := 27) ?hr ?_; (case hd => rfl); (case hg => rfl); (case hr => exact Z16); intro gb215 hg w4 hbox hb; have n0_ := Ak (below_step Z1 hb); have n1_ := Ak (hbox); have n2_ := Ak ((Z36 : w.heap.size ≤ gb215)); have n3_ := Ak ((Z36 : w.heap.size ≤ gb215)); clear HB; have HB := n0_; have BK215 := n1_; have GW215 := n2_; have GE215 := n3_; clear n0_ n1_ n2_ n3_; clear hb hbox hg) | ((with_reducible refine gate_callee (f := 12) rfl ?_); refine goesL_ (some 14) rfl rfl Tryz.func12 Z76 rfl #[.slice A0 l0.length c0, .int .i64 0] rfl Z4 ?_; (with_reducible refine (wire_GetInt.calls k _ _ l0 0 t216 t217 t218 _ ?side1 ?side2 A2.out).mono ?_); (case side1 => exact Z7); (case side2 => exact Z77); rintro e w5 ⟨rfl, hb⟩; refine ⟨_, rfl, ?_⟩; have n0_ := Ak (blk_below (g := gb215) (o := .cells #[.slice none 0 0, .slice none 0 0] 27 (0, 0)) Z101 hb); have n1_ := Ak (below_step Z39 hb); clear BK215; clear HB; have BK215 := n0_; have HB := n1_; clear n0_ n1_; (try clear hb); (try clear hb2); (try clear hk); (try clear hi)))
 (try simp only [Act.put, List.setIfInBounds_toArray, List.set_cons_zero, List.set_cons_succ])
 go_cut [31] (fun v31 wc => ∃ (kq : Nat) (x31_2 : Bool), v31 = .bool x31_2 ∧ Aside0 (bundle_Parse.j0 kq l0 t216 t217 x31_2 = some (r1, r2, r3)) ∧ Aside0 (kq ≤ k) ∧ Aside0 (wc.heap[gb215]? = some (.cells #[(.slice none 0 0), (.slice none 0 0)] 27 (0, 0))) ∧ Aside0 (Below w.heap.size w wc))
 case first =>
  have H := HC3.out
  clear HC3
  by_cases c6 : t218 = 0
  ·rw [if_pos c6] at H
   have c6b0 : (t218 == 0) = true := beq_iff_eq.mpr c6
   have c6b1 : (t218 != 0) = false := bne_eq_false_iff_eq.mpr c6
   clear c6
   (first | rw [c6b0] | (simp only [i64_w, i32_w]; rw [c6b0]) | skip)
   by_cases c7 : t216 < 0
   ·rw [if_pos c7] at H
    have c7b0 : decide (t216 < 0) = true := decide_eq_true c7
    clear c7
    have H' := Ak H
    clear H
    go_wp2
    go_meet
    case rel => exact ⟨_, (true), Z11, H', ⟨Z63⟩, ⟨Z101⟩, ⟨Z39⟩⟩
   ·rw [if_neg c7] at H
    have c7b0 : decide (t216 < 0) = false := decide_eq_false c7
    clear c7
    have H' := Ak H
    clear H
    go_wp2
    go_meet
    case rel => exact ⟨_, (decide (t216 > (wrap64 ((l0.length : Int) - t217)))), Z11, H', ⟨Z63⟩, ⟨Z101⟩, ⟨Z39⟩⟩
  ·rw [if_neg c6] at H
   have c6b0 : (t218 == 0) = false := beq_eq_false_iff_ne.mpr c6
   have c6b1 : (t218 != 0) = true := bne_iff_ne.mpr c6
   (first | rw [c6b0] | (simp only [i64_w, i32_w]; rw [c6b0]) | skip)
   have H' := Ak H
   clear H
   go_wp2
   go_meet
   case rel => exact ⟨_, (true), Z11, H', ⟨Z63⟩, ⟨Z101⟩, ⟨Z39⟩⟩
 case rest =>
  clear HC3
  try clear c1
  try clear p2
  try clear c5
  try clear c6
  try clear c6b0
  try clear c6b1
  try clear p6
  try clear c7
  try clear c7b0
  obtain ⟨kq, x31_2, rfl, HA, HJ2, BK215, HB⟩ := hcut
  cases kq with
  | zero => exact absurd HA.out (by simp [bundle_Parse.j0])
  | succ kj2 =>
   have H := HA.out
   clear HA
   simp only [bundle_Parse.j0] at H
   by_cases c8 : x31_2 = true
   ·subst c8
    have H1 : (some (([] : List Int), ([] : List (S35)), 13)) = some (r1, r2, r3) := by rw [if_pos rfl] at H; exact H
    clear H
    have H := H1
    clear H1
    simp only [Option.some.injEq, Prod.mk.injEq] at H
    obtain ⟨rfl, rfl, rfl⟩ := H
    have hcz9_0 : wc.cell? ⟨gb215, 0, none⟩ = some (.slice none 0 0) := (blk_cell BK215.out 0).trans rfl
    have hcz9_1 : wc.cell? ⟨gb215, 1, none⟩ = some (.slice none 0 0) := (blk_cell BK215.out 1).trans rfl
    have hfz9_0 := bfz BK215.out 0
    have hfz9_1 := bfz BK215.out 1
    go_wp2
    refine bodyPost_ret (results_ct rfl _ _ gb215 27 #[.slice none 0 0, .slice none 0 0] (0, 0) _ rfl Z74 Tryz.underlying27 rfl Z76) rfl ?_
    exact ⟨_, _, Z6, Z8, Z23, Z39⟩
   ·replace c8 := Bool.eq_false_iff.mpr c8
    subst c8
    have H1 : (bundle_Parse.l0 kj2 l0 t217 t216 0 ([] : List Int)) = some (r1, r2, r3) := by rw [if_neg (show ¬ (false = true) by decide)] at H; exact H
    clear H
    have H := H1
    clear H1
    have H' := Ak H
    clear H
    go_wp2_with (first | ((with_reducible refine gate_dst (N := 7) rfl ?_); (try (refine gate_guard (by rfl) ?_; dsimp only)); refine box_event ?hg (N := 7) ?hd (cs := #[.slice none 0 0, .slice none 0 0]) (t := 27) ?hr ?_; (case hd => rfl); (case hg => rfl); (case hr => exact Z16); intro gb219 hg w10 hbox hb; have n0_ := Ak (blk_below (g := gb215) (o := .cells #[.slice none 0 0, .slice none 0 0] 27 (0, 0)) Z101 hb); have n1_ := Ak (below_step Z39 hb); have n2_ := Ak (hbox); have n3_ := Ak ((by rw [hg]; exact (below_size Z39) : w.heap.size ≤ gb219)); have n4_ := Ak ((by rw [hg]; exact (below_size Z39) : w.heap.size ≤ gb219)); have n5_ := Ak ((by rw [hg]; exact Nat.ne_of_lt (blk_lt (g := gb215) (o := .cells #[.slice none 0 0, .slice none 0 0] 27 (0, 0)) Z101) : gb215 ≠ gb219)); have n6_ := Ak ((by rw [hg]; exact Nat.ne_of_gt (blk_lt (g := gb215) (o := .cells #[.slice none 0 0, .slice none 0 0] 27 (0, 0)) Z101) : gb219 ≠ gb215)); clear BK215; clear HB; have BK215 := n0_; have HB := n1_; have BK219 := n2_; have GW219 := n3_; have GE219 := n4_; have NB215_219 := n5_; have NB219_215 := n6_; clear n0_ n1_ n2_ n3_ n4_ n5_ n6_; clear hb hbox hg))
    go_loopg [5, 34] kj2 (fun kq v5 v34 w' => ∃ (x5_2 : Int) (x34_2 : Int) (x220000_2 : List Int) (u220000 : Value), v5 = .int .i64 x5_2 ∧ v34 = .int .i64 x34_2 ∧ Aside0 (bundle_Parse.l0 kq l0 x5_2 t216 x34_2 x220000_2 = some (r1, r2, r3)) ∧ Aside0 (kq ≤ kj2) ∧ Aside0 (Kd.R (Kd.int .i64) 3 w' w.heap.size (fun _ => True) u220000 x220000_2) ∧ Aside0 (w'.heap[gb215]? = some (.cells #[(.slice none 0 0), (.slice none 0 0)] 27 (0, 0))) ∧ Aside0 (w'.heap[gb219]? = some (.cells #[u220000, (.slice none 0 0)] 27 (0, 0))) ∧ Aside0 (Below w.heap.size w w'))
    case atStart => exact ⟨(t217), (0), (([] : List Int)), (.slice none 0 0), Z11, Z11, H', ⟨Nat.le_refl _⟩, ⟨Z8⟩, ⟨Z101⟩, ⟨by refine bz ?_; exact BK219.out⟩, ⟨Z15⟩⟩
    case round =>
     clear H'
     try clear c1
     try clear p2
     try clear c5
     try clear c6
     try clear c6b0
     try clear c6b1
     try clear p6
     try clear c7
     try clear c7b0
     try clear c8
     try clear hcz9_0
     try clear hcz9_1
     try clear hfz9_0
     try clear hfz9_1
     try clear p2
     try clear p6
     obtain ⟨x5_2, x34_2, x220000_2, u220000, rfl, rfl, HA, HK2, HO_220000, BK215, BK219, HB⟩ := hrel
     cases gk with
     | zero => exact absurd HA.out (by simp [bundle_Parse.l0])
     | succ k2 =>
      have H := HA.out
      clear HA
      simp only [bundle_Parse.l0] at H
      by_cases c11 : x34_2 < t216
      ·rw [if_pos c11] at H
       have c11b0 : decide (x34_2 < t216) = true := decide_eq_true c11
       clear c11
       replace H := Option.bind_eq_some_iff.mp H
       obtain ⟨⟨t220, t221, t222⟩, A120, H⟩ := H
       replace H : (if t222 = 0 then (if x220000_2.length < 17592186044416 then (bundle_Parse.l0 k2 l0 t221 t216 (wrap64 (x34_2 + 1)) (x220000_2 ++ [t220])) else (none)) else (some (([] : List Int), ([] : List (S35)), 13))) = some (r1, r2, r3) := H
       have A12 := Ak A120
       clear A120
       by_cases c13 : t222 = 0
       ·rw [if_pos c13] at H
        have c13b0 : (t222 == 0) = true := beq_iff_eq.mpr c13
        have c13b1 : (t222 != 0) = false := bne_eq_false_iff_eq.mpr c13
        clear c13
        by_cases c14 : x220000_2.length < 17592186044416
        ·rw [if_pos c14] at H
         have LMc14 := Ak c14
         clear c14
         obtain ⟨y223, hy223⟩ : ∃ y_ : List Int, y_ = (x220000_2 ++ [t220]) := ⟨_, rfl⟩
         replace H : (bundle_Parse.l0 k2 l0 t221 t216 (wrap64 (x34_2 + 1)) y223) = some (r1, r2, r3) := by first | (rw [hy223]; with_reducible exact H) | (have H2_ := (Option.bind_some _ _).symm.trans H; rw [hy223]; with_reducible exact H2_) | (have H2_ := (Option.bind_some _ _).symm.trans H; with_reducible exact H2_) | with_reducible exact H | (rw [hy223]; exact H) | exact H
         have Ny223 := Ak hy223
         clear hy223
         have H' := Ak H
         clear H
         go_wp2_with (first | ((with_reducible refine gate_callee (f := 12) rfl ?_); refine goesL_ (some 39) rfl rfl Tryz.func12 Z76 rfl #[.slice A0 l0.length c0, .int .i64 x5_2] rfl Z4 ?_; (with_reducible refine (wire_GetInt.calls k2 _ _ l0 x5_2 t220 t221 t222 _ ?side1 ?side2 A12.out).mono ?_); (case side1 => exact Z7); (case side2 => exact Z77); rintro e w15 ⟨rfl, hb⟩; refine ⟨_, rfl, ?_⟩; have n0_ := Ak (Kd.R_below Z58 hb); have n1_ := Ak (blk_below (g := gb215) (o := .cells #[.slice none 0 0, .slice none 0 0] 27 (0, 0)) Z101 hb); have n2_ := Ak (blk_below (g := gb219) (o := .cells #[u220000, .slice none 0 0] 27 (0, 0)) (by refine bz ?_; exact BK219.out) hb); have n3_ := Ak (below_step Z15 hb); clear HO_220000; clear BK215; clear BK219; clear HB; have HO_220000 := n0_; have BK215 := n1_; have BK219 := n2_; have HB := n3_; clear n0_ n1_ n2_ n3_; (try clear hb); (try clear hb2); (try clear hk); (try clear hi); have hnb16 := NB219_215.out; have hnc16 := NB215_219.out; have hcz17_0 : w15.cell? ⟨gb219, 0, none⟩ = some (u220000) := (blk_cell BK219.out 0).trans rfl; have hcz17_1 : w15.cell? ⟨gb219, 1, none⟩ = some (.slice none 0 0) := (blk_cell BK219.out 1).trans rfl; have hfz17_0 := bfz BK219.out 0; have hfz17_1 := bfz BK219.out 1) | ((with_reducible refine gate_builtin (b := .append) (xs := #[.tmp 47, .tmp 49]) rfl ?_); (try (refine gate_guard (by rfl) ?_; dsimp only)); at_builtin; refine Kd.R_append (Kd.int .i64) (w0 := w) w.heap.size rfl (.tmp 47) (.tmp 49) 24 3 (.int .i64 0) 8 rfl Tryz.underlying24 info3 rfl (by decide) (by omega) u220000 x220000_2 t220 [.int .i64 t220] (fun _ => True) (fun _ => False) rfl rfl ?aP (fun _ hk => hk.elim) ?aF ?aO ?aB ?aS ?aL ?_; (case aP => exact rfl); (case aB => exact Z15); (case aF => exact (fun _ _ => trivial)); (case aO => exact Z58); (case aS => exact (below_size Z15)); (case aL => have := LMc14.out; omega); intro v224 w18 ho hb hg hat; rw [← Ny223.out] at ho; have n0_ := Ak (blk_grown (g := gb215) (o := .cells #[.slice none 0 0, .slice none 0 0] 27 (0, 0)) Z101 hg (Kd.R_ne HO_220000.out BK215.out (by decide))); have n1_ := Ak (blk_grown (g := gb219) (o := .cells #[u220000, .slice none 0 0] 27 (0, 0)) (by refine bz ?_; exact BK219.out) hg (Kd.R_ne HO_220000.out BK219.out (by decide))); have n2_ := Ak (hb); have n3_ := Ak (ho); clear BK215; clear BK219; clear HB; clear HO_220000; have BK215 := n0_; have BK219 := n1_; have HB := n2_; have HO225 := n3_; clear n0_ n1_ n2_ n3_; clear ho hb hg hat; obtain ⟨Ao19, co19, eo19⟩ := Kd.R_slice HO225.out; subst eo19; have hcz20_0 : w18.cell? ⟨gb219, 0, none⟩ = some (u220000) := (blk_cell BK219.out 0).trans rfl; have hcz20_1 : w18.cell? ⟨gb219, 1, none⟩ = some (.slice none 0 0) := (blk_cell BK219.out 1).trans rfl; have hfz20_0 := bfz BK219.out 0; have hfz20_1 := bfz BK219.out 1))
         go_roundg k2
         case measure => have := HJ2.out; have := HK2.out; omega
         case rel => exact ⟨(t221), (wrap64 (x34_2 + 1)), (y223), (.slice Ao19 y223.length co19), Z11, Z11, H', ⟨by have := HJ2.out; have := HK2.out; omega⟩, ⟨by (with_reducible repeat (first | apply Kd.R_alloc | apply Kd.R_drewN | apply Kd.R_drew)); exact Kd.R_mono (Kd.R_far (p := ⟨gb219, 0, none⟩) (Kd.R_types HO225.out BK219.out (by decide)) (fun _ hk => hk.2) (.slice Ao19 y223.length co19)) (fun _ hk => trivial)⟩, ⟨by refine bz ?_; refine blk_far ?_ NB215_219.out _; refine bz ?_; exact BK215.out⟩, ⟨by refine bz ?_; refine blk_put (cs := #[u220000, .slice none 0 0]) ?_ 0 _ rfl; refine bz ?_; exact BK219.out⟩, ⟨Z15⟩⟩
        ·rw [if_neg c14] at H
         exact absurd H (by simp)
       ·rw [if_neg c13] at H
        have c13b0 : (t222 == 0) = false := beq_eq_false_iff_ne.mpr c13
        have c13b1 : (t222 != 0) = true := bne_iff_ne.mpr c13
        simp only [Option.some.injEq, Prod.mk.injEq] at H
        obtain ⟨rfl, rfl, rfl⟩ := H
        go_wp2_with (first | ((with_reducible refine gate_callee (f := 12) rfl ?_); refine goesL_ (some 39) rfl rfl Tryz.func12 Z76 rfl #[.slice A0 l0.length c0, .int .i64 x5_2] rfl Z4 ?_; (with_reducible refine (wire_GetInt.calls k2 _ _ l0 x5_2 t220 t221 t222 _ ?side1 ?side2 A12.out).mono ?_); (case side1 => exact Z7); (case side2 => exact Z77); rintro e w21 ⟨rfl, hb⟩; refine ⟨_, rfl, ?_⟩; have n0_ := Ak (Kd.R_below Z58 hb); have n1_ := Ak (blk_below (g := gb215) (o := .cells #[.slice none 0 0, .slice none 0 0] 27 (0, 0)) Z101 hb); have n2_ := Ak (blk_below (g := gb219) (o := .cells #[u220000, .slice none 0 0] 27 (0, 0)) (by refine bz ?_; exact BK219.out) hb); have n3_ := Ak (below_step Z15 hb); clear HO_220000; clear BK215; clear BK219; clear HB; have HO_220000 := n0_; have BK215 := n1_; have BK219 := n2_; have HB := n3_; clear n0_ n1_ n2_ n3_; (try clear hb); (try clear hb2); (try clear hk); (try clear hi); have hnb22 := NB215_219.out; have hnc22 := NB219_215.out; have hcz23_0 : w21.cell? ⟨gb215, 0, none⟩ = some (.slice none 0 0) := (blk_cell BK215.out 0).trans rfl; have hcz23_1 : w21.cell? ⟨gb215, 1, none⟩ = some (.slice none 0 0) := (blk_cell BK215.out 1).trans rfl; have hfz23_0 := bfz BK215.out 0; have hfz23_1 := bfz BK215.out 1))
        refine bodyPost_ret (results_ct rfl _ _ gb215 27 #[.slice none 0 0, .slice none 0 0] (0, 0) _ rfl Z74 Tryz.underlying27 rfl Z76) rfl ?_
        exact ⟨_, _, Z6, Z8, Z23, Z15⟩
      ·rw [if_neg c11] at H
       have c11b0 : decide (x34_2 < t216) = false := decide_eq_false c11
       clear c11
       by_cases c24 : 0 ≤ x5_2
       ·rw [if_pos c24] at H
        have c24b0 := eq_true c24
        have c24b1 : decide (0 ≤ x5_2) = true := decide_eq_true c24
        clear c24
        by_cases c25 : x5_2 ≤ (l0.length : Int)
        ·rw [if_pos c25] at H
         have c25b0 := eq_true c25
         have c25b1 : decide (x5_2 ≤ (l0.length : Int)) = true := decide_eq_true c25
         clear c25
         replace H := Option.bind_eq_some_iff.mp H
         obtain ⟨⟨t227, t228⟩, A260, H⟩ := H
         replace H : (if t228 = 0 then (some (x220000_2, t227, 0)) else (some (([] : List Int), ([] : List (S35)), 13))) = some (r1, r2, r3) := H
         have A26 := Ak A260
         clear A260
         by_cases c27 : t228 = 0
         ·rw [if_pos c27] at H
          have c27b0 : (t228 == 0) = true := beq_iff_eq.mpr c27
          have c27b1 : (t228 != 0) = false := bne_eq_false_iff_eq.mpr c27
          clear c27
          simp only [Option.some.injEq, Prod.mk.injEq] at H
          obtain ⟨rfl, rfl, rfl⟩ := H
          obtain ⟨i028, hi028, _, hsz28, _⟩ := info_parts info5
          obtain ⟨A28, hcut28, hA28, hC28⟩ := print_drop_of (P := Tryz.prog) (Value.int .u8) 0 22 5 .i64 Tryz.underlying22 hi028 hsz28 A0 c0 l0 x5_2 (of_decide_eq_true Z20) (of_decide_eq_true Z20) HC0.out
          have HR226 := Ak (Kd.C_of_reads (h1 := fun _ => rfl) (hA28 _ (Kd.reads_of_C HR0.out)))
          have HC226 := Ak hC28
          clear hA28 hC28 hi028 hsz28
          go_wp2_with (first | ((with_reducible refine gate_callee (f := 13) rfl ?_); refine goesL_ (some 58) rfl rfl Tryz.func13 Z76 rfl #[.slice A28 (l0.drop (x5_2 : Int).toNat).length (c0 - x5_2.toNat)] rfl Z110 ?_; (with_reducible refine (wire_GetCommits.calls k2 _ _ (l0.drop (x5_2 : Int).toNat) t227 t228 _ ?side1 ?side2 A26.out).mono ?_); (case side1 => repeat (first | exact (Kd.C_below HR226.out HB.out) | (with_reducible refine Kd.C_alloc ?_ _) | (with_reducible refine Kd.C_drewN ?_ _) | (with_reducible refine Kd.C_drew ?_))); (case side2 => exact HC226.out); rintro e w29 ⟨v229, rfl, ho0, hb⟩; refine ⟨_, rfl, ?_⟩; have n0_ := Ak (Kd.R_below Z58 hb); have n1_ := Ak (Kd.S_lower (Kd.S_new' ho0 (Kd.R_lt Z58)) (below_size Z15)); have n2_ := Ak (blk_below (g := gb215) (o := .cells #[.slice none 0 0, .slice none 0 0] 27 (0, 0)) Z101 hb); have n3_ := Ak (blk_below (g := gb219) (o := .cells #[u220000, .slice none 0 0] 27 (0, 0)) (by refine bz ?_; exact BK219.out) hb); have n4_ := Ak (below_step Z15 hb); clear HO_220000; clear BK215; clear BK219; clear HB; have HO_220000 := n0_; have HO230 := n1_; have BK215 := n2_; have BK219 := n3_; have HB := n4_; clear n0_ n1_ n2_ n3_ n4_; (try clear hb); (try clear hb2); (try clear hk); (try clear hi); (try clear ho0); obtain ⟨Ao30, co30, eo30⟩ := Kd.S_slice HO230.out; subst eo30; have hnb31 := NB219_215.out; have hnc31 := NB215_219.out; have hcz32_0 : w29.cell? ⟨gb219, 0, none⟩ = some (u220000) := (blk_cell BK219.out 0).trans rfl; have hcz32_1 : w29.cell? ⟨gb219, 1, none⟩ = some (.slice none 0 0) := (blk_cell BK219.out 1).trans rfl; have hfz32_0 := bfz BK219.out 0; have hfz32_1 := bfz BK219.out 1; obtain ⟨Ao33, co33, eo33⟩ := Kd.R_slice HO_220000.out; subst eo33; have hcz34_0 : w29.cell? ⟨gb215, 0, none⟩ = some (.slice none 0 0) := (blk_cell BK215.out 0).trans rfl; have hcz34_1 : w29.cell? ⟨gb215, 1, none⟩ = some (.slice none 0 0) := (blk_cell BK215.out 1).trans rfl; have hfz34_0 := bfz BK215.out 0; have hfz34_1 := bfz BK215.out 1))
          refine bodyPost_ret (results_ct rfl _ _ gb215 27 #[.slice Ao33 x220000_2.length co33, .slice Ao30 t227.length co30] (0, 0) _ rfl (by refine bz ?_; refine blk_put (cs := #[.slice Ao33 x220000_2.length co33, .slice none 0 0]) ?_ 1 _ rfl; refine bz ?_; refine blk_put (cs := #[.slice none 0 0, .slice none 0 0]) ?_ 0 _ rfl; refine bz ?_; refine blk_far ?_ NB215_219.out _; refine bz ?_; exact BK215.out) Tryz.underlying27 rfl Z76) rfl ?_
          exact ⟨_, _, Z6, by (with_reducible repeat (first | apply Kd.R_alloc | apply Kd.R_drewN | apply Kd.R_drew)); exact Kd.R_mono (Kd.R_far (p := ⟨gb215, 1, none⟩) (Kd.R_far (p := ⟨gb215, 0, none⟩) (Kd.R_far (p := ⟨gb219, 1, none⟩) (Kd.R_types (Kd.R_types HO_220000.out BK219.out (by decide)) BK215.out (by decide)) (fun _ hk => hk.1.2) (.slice Ao30 t227.length co30)) (fun _ hk => hk.2) (.slice Ao33 x220000_2.length co33)) (fun _ hk => hk.2) (.slice Ao30 t227.length co30)) (fun _ hk => trivial), by (with_reducible repeat (first | apply Kd.S_alloc | apply Kd.S_drewN | apply Kd.S_drew)); exact Kd.S_mono (Kd.S_far (p := ⟨gb215, 1, none⟩) (Kd.S_far (p := ⟨gb215, 0, none⟩) (Kd.S_far (p := ⟨gb219, 1, none⟩) (Kd.S_types (Kd.S_types HO230.out BK219.out (by decide)) BK215.out (by decide)) (fun _ hk => hk.1.2) (.slice Ao30 t227.length co30)) (fun _ hk => hk.2) (.slice Ao33 x220000_2.length co33)) (fun _ hk => hk.2) (.slice Ao30 t227.length co30)) (fun _ hk => hk.1.1.2), Z15⟩
         ·rw [if_neg c27] at H
          have c27b0 : (t228 == 0) = false := beq_eq_false_iff_ne.mpr c27
          have c27b1 : (t228 != 0) = true := bne_iff_ne.mpr c27
          simp only [Option.some.injEq, Prod.mk.injEq] at H
          obtain ⟨rfl, rfl, rfl⟩ := H
          obtain ⟨i035, hi035, _, hsz35, _⟩ := info_parts info5
          obtain ⟨A35, hcut35, hA35, hC35⟩ := print_drop_of (P := Tryz.prog) (Value.int .u8) 0 22 5 .i64 Tryz.underlying22 hi035 hsz35 A0 c0 l0 x5_2 (of_decide_eq_true Z20) (of_decide_eq_true Z20) HC0.out
          have HR226 := Ak (Kd.C_of_reads (h1 := fun _ => rfl) (hA35 _ (Kd.reads_of_C HR0.out)))
          have HC226 := Ak hC35
          clear hA35 hC35 hi035 hsz35
          go_wp2_with (first | ((with_reducible refine gate_callee (f := 13) rfl ?_); refine goesL_ (some 58) rfl rfl Tryz.func13 Z76 rfl #[.slice A35 (l0.drop (x5_2 : Int).toNat).length (c0 - x5_2.toNat)] rfl Z110 ?_; (with_reducible refine (wire_GetCommits.calls k2 _ _ (l0.drop (x5_2 : Int).toNat) t227 t228 _ ?side1 ?side2 A26.out).mono ?_); (case side1 => repeat (first | exact (Kd.C_below HR226.out HB.out) | (with_reducible refine Kd.C_alloc ?_ _) | (with_reducible refine Kd.C_drewN ?_ _) | (with_reducible refine Kd.C_drew ?_))); (case side2 => exact HC226.out); rintro e w36 ⟨v229, rfl, ho0, hb⟩; refine ⟨_, rfl, ?_⟩; have n0_ := Ak (Kd.R_below Z58 hb); have n1_ := Ak (Kd.S_lower (Kd.S_new' ho0 (Kd.R_lt Z58)) (below_size Z15)); have n2_ := Ak (blk_below (g := gb215) (o := .cells #[.slice none 0 0, .slice none 0 0] 27 (0, 0)) Z101 hb); have n3_ := Ak (blk_below (g := gb219) (o := .cells #[u220000, .slice none 0 0] 27 (0, 0)) (by refine bz ?_; exact BK219.out) hb); have n4_ := Ak (below_step Z15 hb); clear HO_220000; clear BK215; clear BK219; clear HB; have HO_220000 := n0_; have HO230 := n1_; have BK215 := n2_; have BK219 := n3_; have HB := n4_; clear n0_ n1_ n2_ n3_ n4_; (try clear hb); (try clear hb2); (try clear hk); (try clear hi); (try clear ho0); have hnb37 := NB215_219.out; have hnc37 := NB219_215.out; have hcz38_0 : w36.cell? ⟨gb215, 0, none⟩ = some (.slice none 0 0) := (blk_cell BK215.out 0).trans rfl; have hcz38_1 : w36.cell? ⟨gb215, 1, none⟩ = some (.slice none 0 0) := (blk_cell BK215.out 1).trans rfl; have hfz38_0 := bfz BK215.out 0; have hfz38_1 := bfz BK215.out 1))
          refine bodyPost_ret (results_ct rfl _ _ gb215 27 #[.slice none 0 0, .slice none 0 0] (0, 0) _ rfl Z74 Tryz.underlying27 rfl Z76) rfl ?_
          exact ⟨_, _, Z6, Z8, Z23, Z15⟩
        ·rw [if_neg c25] at H
         exact absurd H (by simp)
       ·rw [if_neg c24] at H
        exact absurd H (by simp)
end Go.Proofs.YtmmjnbpoilicjaaGreat.Q
