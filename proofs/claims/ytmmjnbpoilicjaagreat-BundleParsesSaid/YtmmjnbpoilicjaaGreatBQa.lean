/- Names for proofs by tactics that the printed walks use many times; no conditions. -/
import Derived.Below
import Derived.Deep.Draws
import Derived.Deep.AppendLies
import Derived.Maps.AppendAt
import Derived.OwnWalk
import Derived.Laws.BytesArg
import Derived.Laws.MakeOwn
import Derived.Laws.OwnMore
import Derived.Deep.OwnRows
import Derived.Tactics
import Derived.Lib.ConvBytes
import Derived.Laws.Slices
import Derived.WalkKit
import Derived.KernelRfl
import Derived.RowKit3
import Derived.Deep.LoopGhost
import Derived.Deep.QuietTactic
import Derived.BigQuiet
import Derived.WideLaws
import Derived.Deep.DeepCutAuto
import Derived.Deep.CutBlock
import Derived.Deep.RegionHeld3
import Derived.Laws.Rows
import Derived.Lib.AppendStr
import Derived.ArgAppend
import Derived.Laws.IdiomCopy
import Derived.OrdersHeld
import Derived.Laws.BitsLemmas
import Derived.RowKit
import Derived.Test.YtmmjnbpoilicjaaGreatBW
namespace Go.Proofs.YtmmjnbpoilicjaaGreatW.PrintWords
open Go
theorem Ak {p : Prop} (h : p) : Aside0 p := ⟨h⟩
theorem bz {p q : Prop} (h : q) (f : q → p := by intro h; (with_reducible repeat (first | refine blk_drewN ?_ _ | refine blk_drew ?_ | refine blk_alloc ?_ _)); exact h) : p := f h
theorem Z0 {p : Prop} (h : p := by repeat (first | (with_reducible first | exact HK.out | apply KeepBut.set_ | apply keep_drewN | apply keep_drew | apply keep_alloc) | exact HK.out)) : p := h
theorem Z1 {p : Prop} (h : p := by repeat (first | (with_reducible first | exact HB.out | apply below_alloc | apply pw_below_drewN | apply below_drew1) | exact HB.out)) : p := h
theorem Z2 {p : Prop} (h : p := by repeat (first | (with_reducible first | exact HB.out | apply below_alloc | apply pw_below_drewN | apply below_drew1 | refine below_set ?_ (IsS77.ge HI0.out)) | exact HB.out)) : p := h
theorem Z3 {p : Prop} (h : p := by repeat (first | (with_reducible first | exact HI0.out | apply IsS77.alloc | apply IsS77.drewN | apply IsS77.drew | apply IsS77.set_1 | apply IsS77.set_2) | exact HI0.out)) : p := h
theorem Z4 {p : Prop} (h : p := by (try simp only [List.map_toArray, List.map_cons, List.map_nil]); first | done | rfl | (simp only [List.length_drop, List.length_take]; rfl)) : p := h
theorem Z5 {p : Prop} (h : p := by repeat (first | (with_reducible first | exact HB.out | apply below_alloc | apply pw_below_drewN | apply below_drew1 | refine below_set ?_ GE267.out | refine below_set ?_ GE268.out) | exact HB.out)) : p := h
theorem Z6 {p : Prop} (h : p := by first | rfl | (simp [errW_none, errW_some] <;> rfl) | (simp [*, errW_none, errW_some] <;> rfl)) : p := h
theorem Z7 {p : Prop} (h : p := by repeat (first | exact (Kd.C_below HR0.out HB.out) | (with_reducible refine Kd.C_alloc ?_ _) | (with_reducible refine Kd.C_drewN ?_ _) | (with_reducible refine Kd.C_drew ?_))) : p := h
theorem Z8 {p : Prop} (h : p := by first | exact Kd.R_nil _ _ _ _ _ | exact Kd.N_nil _ _ _ _ _ | exact Kd.V_nil _ _ _ _ _ | exact Kd.Q_nil _ _ _ _ _ | exact Kd.S_nil _ _ _ _ _) : p := h
theorem Z9 {p : Prop} (h : p := by repeat (first | (with_reducible first | exact HB.out | apply below_alloc | apply pw_below_drewN | apply below_drew1 | refine below_set ?_ GE333.out | refine below_set ?_ GE334.out) | exact HB.out)) : p := h
theorem Z10 {p : Prop} (h : p := by repeat (first | (with_reducible first | exact HB.out | apply below_alloc | apply pw_below_drewN | apply below_drew1 | refine below_set ?_ GE248.out | refine below_set ?_ GE249.out) | exact HB.out)) : p := h
theorem Z11 {p : Prop} (h : p := by first | rfl | (simp; done) | (simp [*]; done)) : p := h
theorem Z12 {p : Prop} (h : p := by repeat (first | (with_reducible first | exact HB.out | apply below_alloc | apply pw_below_drewN | apply below_drew1 | refine below_set ?_ GE354.out) | exact HB.out)) : p := h
theorem Z13 {p : Prop} (h : p := by repeat (first | (with_reducible first | exact HB.out | apply below_alloc | apply pw_below_drewN | apply below_drew1 | refine below_set ?_ GE320.out) | exact HB.out)) : p := h
theorem Z14 {p : Prop} (h : p := by repeat (first | (with_reducible first | exact HB.out | apply below_alloc | apply pw_below_drewN | apply below_drew1 | refine below_set ?_ GE267.out) | exact HB.out)) : p := h
theorem Z15 {p : Prop} (h : p := by repeat (first | (with_reducible first | exact HB.out | apply below_alloc | apply pw_below_drewN | apply below_drew1 | refine below_set ?_ GE215.out | refine below_set ?_ GE219.out) | exact HB.out)) : p := h
theorem Z16 {p : Prop} (h : p := by first | (go_simp; done) | (go_simp; rfl)) : p := h
theorem Z17 {p : Prop} (h : p := by repeat (first | exact HR0.out | (with_reducible refine Kd.C_alloc ?_ _) | (with_reducible refine Kd.C_drewN ?_ _) | (with_reducible refine Kd.C_drew ?_))) : p := h
theorem Z18 {p : Prop} (h : p := by repeat (first | exact Drawn0.refl _ | apply Drawn0.step)) : p := h
theorem Z19 {p : Prop} (h : p := by repeat (first | (with_reducible first | exact HB.out | apply below_alloc | apply pw_below_drewN | apply below_drew1 | refine below_set ?_ GE303.out) | exact HB.out)) : p := h
theorem Z20 {p : Prop} (h : p := by first | (with_reducible assumption) | assumption) : p := h
theorem Z21 {p : Prop} (h : p := by repeat (first | (with_reducible first | exact HB.out | apply below_alloc | apply pw_below_drewN | apply below_drew1 | refine below_set ?_ GE248.out) | exact HB.out)) : p := h
theorem Z22 {p : Prop} (h : p := by repeat (first | (with_reducible first | exact HK.out | apply KeepBut.set_ | apply keep_drewN | apply keep_drew | apply keep_alloc | refine keep_far ?_ GW164.out _ | refine keep_far ?_ GW165.out _) | exact HK.out)) : p := h
theorem Z23 {p : Prop} (h : p := by first | exact Kd.S_nil _ _ _ _ _ | exact Kd.N_nil _ _ _ _ _ | exact Kd.V_nil _ _ _ _ _ | exact Kd.Q_nil _ _ _ _ _ | exact Kd.R_nil _ _ _ _ _) : p := h
theorem Z24 {p : Prop} (h : p := by refine bz ?_; refine blk_put (cs := #[.int .i64 0, .slice none 0 0, .slice none 0 0, .string (⟨#[]⟩ : ByteArray), .slice none 0 0]) ?_ 4 _ rfl; refine bz ?_; refine blk_put (cs := #[.int .i64 0, .slice none 0 0, .slice none 0 0, .string (⟨#[]⟩ : ByteArray), .slice none 0 0]) ?_ 3 _ rfl; refine bz ?_; refine blk_put (cs := #[.int .i64 0, .slice none 0 0, .slice none 0 0, .string (⟨#[]⟩ : ByteArray), .slice none 0 0]) ?_ 2 _ rfl; refine bz ?_; refine blk_put (cs := #[.int .i64 0, .slice none 0 0, .slice none 0 0, .string (⟨#[]⟩ : ByteArray), .slice none 0 0]) ?_ 1 _ rfl; refine bz ?_; refine blk_put (cs := #[.int .i64 0, .slice none 0 0, .slice none 0 0, .string (⟨#[]⟩ : ByteArray), .slice none 0 0]) ?_ 0 _ rfl; refine bz ?_; refine blk_far ?_ NB267_268.out _; refine bz ?_; exact BK267.out) : p := h
theorem Z25 {p : Prop} (h : p := by exact k35_mkM _ _ _ (⟨t190, t191, t194, t197, t198⟩ : S35) (Kd.R_mono (Kd.R_tight rfl (Kd.R_mono (ok' := fun k_ => ((fun _ => True)) k_ ∧ some k_ ≠ (u6 : Value).ownBlock) (Kd.R_apart' (HO193.out) (Kd.S_typed HO_6.out) (by decide)) (fun k_ hk => ⟨trivial, hk.2⟩))) (fun _ h_ => Or.inl h_)) (Kd.R_mono (Kd.R_tight rfl (Kd.R_mono (ok' := fun k_ => ((fun _ => True)) k_ ∧ some k_ ≠ (u6 : Value).ownBlock) (Kd.R_apart' (HO196.out) (Kd.S_typed HO_6.out) (by decide)) (fun k_ hk => ⟨trivial, hk.2⟩))) (fun _ h_ => Or.inr (Or.inl h_))) (Kd.R_mono (Kd.R_tight rfl (Kd.R_mono (ok' := fun k_ => ((fun _ => True)) k_ ∧ some k_ ≠ (u6 : Value).ownBlock) (Kd.R_apart' (HO200.out) (Kd.S_typed HO_6.out) (by decide)) (fun k_ hk => ⟨trivial, hk.2⟩))) (fun _ h_ => Or.inr (Or.inr (h_))))) : p := h
theorem Z26 {p : Prop} (h : p := by (with_reducible repeat (first | apply Kd.R_alloc | apply Kd.R_drewN | apply Kd.R_drew)); exact HO_6.out) : p := h
theorem Z27 {p : Prop} (h : p := by repeat (first | (with_reducible first | exact HI0.out | apply IsS77.alloc | apply IsS77.drewN | apply IsS77.drew | apply IsS77.set_1 | apply IsS77.set_2 | refine IsS77.far ?_ NB0_130.out _ | refine IsS77.far ?_ NB0_131.out _) | exact HI0.out)) : p := h
theorem Z28 {p : Prop} (h : p := by repeat (first | (with_reducible first | exact HB.out | apply below_alloc | apply pw_below_drewN | apply below_drew1 | refine below_set ?_ (IsS77.ge HI0.out) | refine below_set ?_ GE130.out | refine below_set ?_ GE131.out) | exact HB.out)) : p := h
theorem Z29 {p : Prop} (h : p := by repeat (first | exact (Kd.C_below HR1_1.out HB.out) | (with_reducible refine Kd.C_alloc ?_ _) | (with_reducible refine Kd.C_drewN ?_ _) | (with_reducible refine Kd.C_drew ?_))) : p := h
theorem Z30 {p : Prop} (h : p := by repeat (first | exact (Kd.C_below HR0_1.out HB.out) | (with_reducible refine Kd.C_alloc ?_ _) | (with_reducible refine Kd.C_drewN ?_ _) | (with_reducible refine Kd.C_drew ?_))) : p := h
theorem Z31 {p : Prop} (h : p := by repeat (first | (with_reducible first | exact HB.out | apply below_alloc | apply pw_below_drewN | apply below_drew1 | refine below_set ?_ (IsS77.ge HI209.out)) | exact HB.out)) : p := h
theorem Z32 {p : Prop} (h : p := by repeat (first | (with_reducible first | exact HB.out | apply below_alloc | apply pw_below_drewN | apply below_drew1 | refine below_set ?_ GE333.out) | exact HB.out)) : p := h
theorem Z33 {p : Prop} (h : p := by repeat (first | (with_reducible first | exact HK.out | apply KeepBut.set_ | apply keep_drewN | apply keep_drew | apply keep_alloc | refine keep_far ?_ GW130.out _ | refine keep_far ?_ GW131.out _) | exact HK.out)) : p := h
theorem Z34 {p : Prop} (h : p := by repeat (first | (with_reducible first | exact HI0.out | apply IsS77.alloc | apply IsS77.drewN | apply IsS77.drew | apply IsS77.set_1 | apply IsS77.set_2 | refine IsS77.far ?_ NB0_164.out _ | refine IsS77.far ?_ NB0_165.out _) | exact HI0.out)) : p := h
theorem Z35 {p : Prop} (h : p := by repeat (first | (with_reducible first | exact HB.out | apply below_alloc | apply pw_below_drewN | apply below_drew1 | refine below_set ?_ (IsS77.ge HI111.out)) | exact HB.out)) : p := h
theorem Z36 {p : Prop} (h : p := by rw [hg]; exact (below_size Z1)) : p := h
theorem Z37 {p : Prop} (h : p := by repeat (first | (with_reducible first | exact HB.out | apply below_alloc | apply pw_below_drewN | apply below_drew1 | refine below_set ?_ (IsS77.ge HI0.out) | refine below_set ?_ GE164.out | refine below_set ?_ GE165.out) | exact HB.out)) : p := h
theorem Z38 {p : Prop} (h : p := by repeat (first | (with_reducible first | exact HB.out | apply below_alloc | apply pw_below_drewN | apply below_drew1 | refine below_set ?_ GE267.out | refine below_set ?_ GE268.out | refine below_set ?_ GE288.out) | exact HB.out)) : p := h
theorem Z39 {p : Prop} (h : p := by repeat (first | (with_reducible first | exact HB.out | apply below_alloc | apply pw_below_drewN | apply below_drew1 | refine below_set ?_ GE215.out) | exact HB.out)) : p := h
theorem Z40 {p : Prop} (h : p := by rw [hg]; exact Nat.ne_of_lt (blk_lt (g := gb267) (o := .cells #[.int .i64 0, .slice none 0 0, .slice none 0 0, .string (⟨#[]⟩ : ByteArray), .slice none 0 0] 35 (0, 0)) (by refine bz ?_; exact BK267.out))) : p := h
theorem Z41 {p : Prop} (h : p := by rw [hg]; exact Nat.ne_of_gt (blk_lt (g := gb267) (o := .cells #[.int .i64 0, .slice none 0 0, .slice none 0 0, .string (⟨#[]⟩ : ByteArray), .slice none 0 0] 35 (0, 0)) (by refine bz ?_; exact BK267.out))) : p := h
theorem Z42 {p : Prop} (h : p := by repeat (first | (with_reducible first | exact HB.out | apply below_alloc | apply pw_below_drewN | apply below_drew1 | refine below_set ?_ GE729.out | refine below_set ?_ GE730.out) | exact HB.out)) : p := h
theorem Z43 {p : Prop} (h : p := by repeat (first | (with_reducible first | exact HB.out | apply below_alloc | apply pw_below_drewN | apply below_drew1 | refine below_set ?_ GE354.out | refine below_set ?_ GE362.out) | exact HB.out)) : p := h
theorem Z44 {p : Prop} (h : p := by refine bz ?_; refine blk_put (cs := #[.int .i64 t289, .int .i64 t290, .int .i64 t291, .bool t292, .string t293, .int .i64 0]) ?_ 5 _ rfl; refine bz ?_; refine blk_put (cs := #[.int .i64 t289, .int .i64 t290, .int .i64 t291, .bool t292, .string (⟨#[]⟩ : ByteArray), .int .i64 0]) ?_ 4 _ rfl; refine bz ?_; refine blk_put (cs := #[.int .i64 t289, .int .i64 t290, .int .i64 t291, .bool false, .string (⟨#[]⟩ : ByteArray), .int .i64 0]) ?_ 3 _ rfl; refine bz ?_; refine blk_put (cs := #[.int .i64 t289, .int .i64 t290, .int .i64 0, .bool false, .string (⟨#[]⟩ : ByteArray), .int .i64 0]) ?_ 2 _ rfl; refine bz ?_; refine blk_put (cs := #[.int .i64 t289, .int .i64 0, .int .i64 0, .bool false, .string (⟨#[]⟩ : ByteArray), .int .i64 0]) ?_ 1 _ rfl; refine bz ?_; refine blk_put (cs := #[.int .i64 0, .int .i64 0, .int .i64 0, .bool false, .string (⟨#[]⟩ : ByteArray), .int .i64 0]) ?_ 0 _ rfl; refine bz ?_; exact BK288.out) : p := h
theorem Z45 {p : Prop} (h : p := by refine bz ?_; refine blk_put (cs := #[.int .i64 0, .slice none 0 0, .slice none 0 0, .string (⟨#[]⟩ : ByteArray), .slice none 0 0]) ?_ 4 _ rfl; refine bz ?_; refine blk_put (cs := #[.int .i64 0, .slice none 0 0, .slice none 0 0, .string (⟨#[]⟩ : ByteArray), .slice none 0 0]) ?_ 3 _ rfl; refine bz ?_; refine blk_put (cs := #[.int .i64 0, .slice none 0 0, .slice none 0 0, .string (⟨#[]⟩ : ByteArray), .slice none 0 0]) ?_ 2 _ rfl; refine bz ?_; refine blk_put (cs := #[.int .i64 0, .slice none 0 0, .slice none 0 0, .string (⟨#[]⟩ : ByteArray), .slice none 0 0]) ?_ 1 _ rfl; refine bz ?_; refine blk_put (cs := #[.int .i64 0, .slice none 0 0, .slice none 0 0, .string (⟨#[]⟩ : ByteArray), .slice none 0 0]) ?_ 0 _ rfl; refine bz ?_; refine blk_far ?_ NB267_268.out _; refine bz ?_; refine blk_far ?_ NB267_268.out _; refine bz ?_; exact BK267.out) : p := h
theorem Z46 {p : Prop} (h : p := by repeat (first | (with_reducible first | exact HI111.out | apply IsS77.alloc | apply IsS77.drewN | apply IsS77.drew | apply IsS77.set_1 | apply IsS77.set_2) | exact HI111.out)) : p := h
theorem Z47 {p : Prop} (h : p := by repeat (first | exact (Kd.C_below HR1_2.out Z9) | (with_reducible refine Kd.C_alloc ?_ _) | (with_reducible refine Kd.C_drewN ?_ _) | (with_reducible refine Kd.C_drew ?_))) : p := h
theorem Z48 {p : Prop} (h : p := by repeat (first | exact (Kd.C_below HR0_2.out Z9) | (with_reducible refine Kd.C_alloc ?_ _) | (with_reducible refine Kd.C_drewN ?_ _) | (with_reducible refine Kd.C_drew ?_))) : p := h
theorem Z49 {p : Prop} (h : p := by repeat (first | (with_reducible first | exact HB.out | apply below_alloc | apply pw_below_drewN | apply below_drew1 | refine below_set ?_ GE729.out) | exact HB.out)) : p := h
theorem Z50 {p : Prop} (h : p := by repeat (first | (with_reducible first | exact HB.out | apply below_alloc | apply pw_below_drewN | apply below_drew1 | refine below_set ?_ GE342.out) | exact HB.out)) : p := h
theorem Z51 {p : Prop} (h : p := by repeat (first | (with_reducible first | exact HB.out | apply below_alloc | apply pw_below_drewN | apply below_drew1 | refine below_set ?_ GE342.out | refine below_set ?_ GE343.out) | exact HB.out)) : p := h
theorem Z52 {p : Prop} (h : p := by (with_reducible repeat (first | apply Kd.R_alloc | apply Kd.R_drewN | apply Kd.R_drew)); exact (Kd.R_mono (Kd.R_far (p := ⟨gb354, 1, none⟩) (Kd.R_far (p := ⟨gb354, 0, none⟩) (Kd.R_types HO349.out BK354.out (by decide)) (fun _ hk => hk.2) (.slice Ao40 t347.length co40)) (fun _ hk => hk.2) (.slice Ao42 t350.length co42)) (fun _ h_ => h_.1))) : p := h
theorem Z53 {p : Prop} (h : p := by (with_reducible repeat (first | apply Kd.R_alloc | apply Kd.R_drewN | apply Kd.R_drew)); exact (Kd.R_mono (Kd.R_far (p := ⟨gb354, 1, none⟩) (Kd.R_far (p := ⟨gb354, 0, none⟩) (Kd.R_types HO349.out BK354.out (by decide)) (fun _ hk => hk.2) (.slice Ao27 t347.length co27)) (fun _ hk => hk.2) (.slice Ao29 t350.length co29)) (fun _ h_ => h_.1))) : p := h
theorem Z54 {p : Prop} (h : p := by (with_reducible repeat (first | apply Kd.R_alloc | apply Kd.R_drewN | apply Kd.R_drew)); exact (Kd.R_mono (Kd.R_far (p := ⟨gb354, 1, none⟩) (Kd.R_far (p := ⟨gb354, 0, none⟩) (Kd.R_types HO349.out BK354.out (by decide)) (fun _ hk => hk.2) (.slice Ao13 t347.length co13)) (fun _ hk => hk.2) (.slice Ao15 t350.length co15)) (fun _ h_ => h_.1))) : p := h
theorem Z55 {p : Prop} (h : p := by refine bz ?_; refine blk_put (cs := #[.int .i64 0, .slice none 0 0, .slice none 0 0, .string (⟨#[]⟩ : ByteArray), .slice none 0 0]) ?_ 0 _ rfl; refine bz ?_; exact BK268.out) : p := h
theorem Z56 {p : Prop} (h : p := by refine bz ?_; refine blk_far ?_ NB267_268.out _; refine bz ?_; exact BK267.out) : p := h
theorem Z57 {p : Prop} (h : p := by (with_reducible repeat (first | apply Kd.R_alloc | apply Kd.R_drewN | apply Kd.R_drew)); exact (Kd.R_mono (Kd.R_far (p := ⟨gb288, 5, none⟩) (Kd.R_far (p := ⟨gb288, 4, none⟩) (Kd.R_far (p := ⟨gb288, 3, none⟩) (Kd.R_far (p := ⟨gb288, 2, none⟩) (Kd.R_far (p := ⟨gb288, 1, none⟩) (Kd.R_far (p := ⟨gb288, 0, none⟩) (Kd.R_mono HO_269004.out (fun k_ hk => (⟨hk, hk.2⟩ : _ ∧ k_ ≠ gb288))) (fun _ hk => hk.2) (.int .i64 t289)) (fun _ hk => hk.2) (.int .i64 t290)) (fun _ hk => hk.2) (.int .i64 t291)) (fun _ hk => hk.2) (.bool t292)) (fun _ hk => hk.2) (.string t293)) (fun _ hk => hk.2) (.int .i64 t294)) (fun _ h_ => h_.1))) : p := h
theorem Z58 {p : Prop} (h : p := by (with_reducible repeat (first | apply Kd.R_alloc | apply Kd.R_drewN | apply Kd.R_drew)); exact HO_220000.out) : p := h
theorem Z59 {p : Prop} (h : p := by rw [hg]; exact Nat.ne_of_lt (blk_lt (g := gb248) (o := .cells #[.int .i64 0, .int .i64 0, .int .i64 0, .bool false, .string (⟨#[]⟩ : ByteArray), .int .i64 0] 110 (0, 0)) (by refine bz ?_; exact BK248.out))) : p := h
theorem Z60 {p : Prop} (h : p := by rw [hg]; exact Nat.ne_of_gt (blk_lt (g := gb248) (o := .cells #[.int .i64 0, .int .i64 0, .int .i64 0, .bool false, .string (⟨#[]⟩ : ByteArray), .int .i64 0] 110 (0, 0)) (by refine bz ?_; exact BK248.out))) : p := h
theorem Z61 {p : Prop} (h : p := by (with_reducible repeat (first | apply Kd.S_alloc | apply Kd.S_drewN | apply Kd.S_drew)); exact HO352.out) : p := h
theorem Z62 {p : Prop} (h : p := by (with_reducible repeat (first | apply Kd.R_alloc | apply Kd.R_drewN | apply Kd.R_drew)); exact HO349.out) : p := h
theorem Z63 {p : Prop} (h : p := by first | omega | exact Nat.le_refl _) : p := h
theorem Z64 {p : Prop} (h : p := by refine bz ?_; refine blk_put (cs := #[.int .i64 t269, .slice none 0 0, .slice none 0 0, .string (⟨#[]⟩ : ByteArray), .slice none 0 0]) ?_ 1 _ rfl; refine bz ?_; exact BK268.out) : p := h
theorem Z65 {p : Prop} (h : p := by exact (by (with_reducible repeat (first | apply Kd.S_alloc | apply Kd.S_drewN | apply Kd.S_drew)); exact Kd.S_mono HO_6.out (fun k_ hk => ⟨trivial, fun e_ => e_.elim (fun h_ => hk.1.1.2 h_) (fun h_ => h_.elim (fun h_ => hk.1.2 h_) (fun h_ => hk.2 h_))⟩))) : p := h
theorem Z66 {p : Prop} (h : p := by (with_reducible repeat (first | apply Kd.R_alloc | apply Kd.R_drewN | apply Kd.R_drew)); exact HO325.out) : p := h
theorem Z67 {p : Prop} (h : p := by rw [hg]; exact (below_size (by repeat (first | (with_reducible first | exact HBW.out | apply below_alloc | apply pw_below_drewN | apply below_drew1) | exact HBW.out)))) : p := h
theorem Z68 {p : Prop} (h : p := by refine bz ?_; refine blk_put (cs := #[.int .i64 t250, .int .i64 t253, .int .i64 0, .bool false, .string (⟨#[]⟩ : ByteArray), .int .i64 0]) ?_ 2 _ rfl; refine bz ?_; refine blk_put (cs := #[.int .i64 t250, .int .i64 0, .int .i64 0, .bool false, .string (⟨#[]⟩ : ByteArray), .int .i64 0]) ?_ 1 _ rfl; refine bz ?_; refine blk_put (cs := #[.int .i64 0, .int .i64 0, .int .i64 0, .bool false, .string (⟨#[]⟩ : ByteArray), .int .i64 0]) ?_ 0 _ rfl; refine bz ?_; exact BK249.out) : p := h
theorem Z69 {p : Prop} (h : p := by rw [hg]; exact Nat.ne_of_lt (blk_lt (g := gb333) (o := .cells #[.int .i64 a0_0, .slice A0_1 l0_1.length c0_1, .slice A0_2 l0_2.length c0_2, .string a0_3, .slice A0_4 l0_4.length c0_4] 35 (0, 0)) (by refine bz ?_; exact BK333.out))) : p := h
theorem Z70 {p : Prop} (h : p := by rw [hg]; exact Nat.ne_of_gt (blk_lt (g := gb333) (o := .cells #[.int .i64 a0_0, .slice A0_1 l0_1.length c0_1, .slice A0_2 l0_2.length c0_2, .string a0_3, .slice A0_4 l0_4.length c0_4] 35 (0, 0)) (by refine bz ?_; exact BK333.out))) : p := h
theorem Z71 {p : Prop} (h : p := by refine bz ?_; exact BK267.out) : p := h
theorem Z72 {p : Prop} (h : p := by (with_reducible repeat (first | apply Kd.S_alloc | apply Kd.S_drewN | apply Kd.S_drew)); exact HO_10.out) : p := h
theorem Z73 {p : Prop} (h : p := by refine bz ?_; refine blk_put (cs := #[.slice none 0 0, .slice none 0 0]) ?_ 1 _ rfl; refine bz ?_; refine blk_put (cs := #[.slice none 0 0, .slice none 0 0]) ?_ 0 _ rfl; refine bz ?_; exact BK320.out) : p := h
theorem Z74 {p : Prop} (h : p := by refine bz ?_; refine blk_put (cs := #[.slice none 0 0, .slice none 0 0]) ?_ 1 _ rfl; refine bz ?_; refine blk_put (cs := #[.slice none 0 0, .slice none 0 0]) ?_ 0 _ rfl; refine bz ?_; exact BK215.out) : p := h
theorem Z75 {p : Prop} (h : p := by (with_reducible repeat (first | apply Kd.S_alloc | apply Kd.S_drewN | apply Kd.S_drew)); exact HO_6.out) : p := h
theorem Z76 {p : Prop} (h : p := by kernel_rfl) : p := h
theorem Z77 {p : Prop} (h : p := by exact HC0.out) : p := h
theorem Z78 {p : Prop} (h : p := by exact (keep_size (w := w) (g := g) (row := none) Z0)) : p := h
theorem Z79 {p : Prop} (h : p := by repeat (first | (with_reducible first | exact HK.out | apply KeepBut.set_ | apply keep_drewN | apply keep_drew | apply keep_alloc | refine keep_far ?_ GW164.out _) | exact HK.out)) : p := h
theorem Z80 {p : Prop} (h : p := by repeat (first | (with_reducible first | exact HK.out | apply KeepBut.set_ | apply keep_drewN | apply keep_drew | apply keep_alloc | refine keep_far ?_ GW130.out _) | exact HK.out)) : p := h
theorem Z81 {p : Prop} (h : p := by repeat (first | (with_reducible first | exact HI209.out | apply IsS77.alloc | apply IsS77.drewN | apply IsS77.drew | apply IsS77.set_1 | apply IsS77.set_2) | exact HI209.out)) : p := h
theorem Z82 {p : Prop} (h : p := by (with_reducible repeat (first | apply Kd.S_alloc | apply Kd.S_drewN | apply Kd.S_drew)); exact (Kd.S_mono (Kd.S_far (p := ⟨gb362, 1, none⟩) (Kd.S_far (p := ⟨gb362, 0, none⟩) (Kd.S_types HO360.out BK362.out (by decide)) (fun _ hk => hk.2) (.slice Ao32 t355.length co32)) (fun _ hk => hk.2) (.slice Ao35 t358.length co35)) (fun _ h_ => h_.1))) : p := h
theorem Z83 {p : Prop} (h : p := by (with_reducible repeat (first | apply Kd.S_alloc | apply Kd.S_drewN | apply Kd.S_drew)); exact (Kd.S_mono (Kd.S_far (p := ⟨gb362, 1, none⟩) (Kd.S_far (p := ⟨gb362, 0, none⟩) (Kd.S_types HO360.out BK362.out (by decide)) (fun _ hk => hk.2) (.slice Ao18 t355.length co18)) (fun _ hk => hk.2) (.slice Ao21 t358.length co21)) (fun _ h_ => h_.1))) : p := h
theorem Z84 {p : Prop} (h : p := by (with_reducible repeat (first | apply Kd.S_alloc | apply Kd.S_drewN | apply Kd.S_drew)); exact (Kd.S_mono (Kd.S_far (p := ⟨gb362, 1, none⟩) (Kd.S_far (p := ⟨gb362, 0, none⟩) (Kd.S_types HO352.out BK362.out (by decide)) (fun _ hk => hk.2) (.slice Ao32 t355.length co32)) (fun _ hk => hk.2) (.slice Ao35 t358.length co35)) (fun _ h_ => h_.1))) : p := h
theorem Z85 {p : Prop} (h : p := by (with_reducible repeat (first | apply Kd.S_alloc | apply Kd.S_drewN | apply Kd.S_drew)); exact (Kd.S_mono (Kd.S_far (p := ⟨gb362, 1, none⟩) (Kd.S_far (p := ⟨gb362, 0, none⟩) (Kd.S_types HO352.out BK362.out (by decide)) (fun _ hk => hk.2) (.slice Ao18 t355.length co18)) (fun _ hk => hk.2) (.slice Ao21 t358.length co21)) (fun _ h_ => h_.1))) : p := h
theorem Z86 {p : Prop} (h : p := by (with_reducible repeat (first | apply Kd.S_alloc | apply Kd.S_drewN | apply Kd.S_drew)); exact (Kd.S_mono (Kd.S_far (p := ⟨gb354, 1, none⟩) (Kd.S_far (p := ⟨gb354, 0, none⟩) (Kd.S_types HO352.out BK354.out (by decide)) (fun _ hk => hk.2) (.slice Ao40 t347.length co40)) (fun _ hk => hk.2) (.slice Ao42 t350.length co42)) (fun _ h_ => h_.1))) : p := h
theorem Z87 {p : Prop} (h : p := by (with_reducible repeat (first | apply Kd.S_alloc | apply Kd.S_drewN | apply Kd.S_drew)); exact (Kd.S_mono (Kd.S_far (p := ⟨gb354, 1, none⟩) (Kd.S_far (p := ⟨gb354, 0, none⟩) (Kd.S_types HO352.out BK354.out (by decide)) (fun _ hk => hk.2) (.slice Ao27 t347.length co27)) (fun _ hk => hk.2) (.slice Ao29 t350.length co29)) (fun _ h_ => h_.1))) : p := h
theorem Z88 {p : Prop} (h : p := by (with_reducible repeat (first | apply Kd.S_alloc | apply Kd.S_drewN | apply Kd.S_drew)); exact (Kd.S_mono (Kd.S_far (p := ⟨gb354, 1, none⟩) (Kd.S_far (p := ⟨gb354, 0, none⟩) (Kd.S_types HO352.out BK354.out (by decide)) (fun _ hk => hk.2) (.slice Ao13 t347.length co13)) (fun _ hk => hk.2) (.slice Ao15 t350.length co15)) (fun _ h_ => h_.1))) : p := h
theorem Z89 {p : Prop} (h : p := by (with_reducible repeat (first | apply Kd.R_alloc | apply Kd.R_drewN | apply Kd.R_drew)); exact (Kd.R_mono (Kd.R_far (p := ⟨gb362, 1, none⟩) (Kd.R_far (p := ⟨gb362, 0, none⟩) (Kd.R_types HO357.out BK362.out (by decide)) (fun _ hk => hk.2) (.slice Ao32 t355.length co32)) (fun _ hk => hk.2) (.slice Ao35 t358.length co35)) (fun _ h_ => h_.1))) : p := h
theorem Z90 {p : Prop} (h : p := by (with_reducible repeat (first | apply Kd.R_alloc | apply Kd.R_drewN | apply Kd.R_drew)); exact (Kd.R_mono (Kd.R_far (p := ⟨gb362, 1, none⟩) (Kd.R_far (p := ⟨gb362, 0, none⟩) (Kd.R_types HO357.out BK362.out (by decide)) (fun _ hk => hk.2) (.slice Ao18 t355.length co18)) (fun _ hk => hk.2) (.slice Ao21 t358.length co21)) (fun _ h_ => h_.1))) : p := h
theorem Z91 {p : Prop} (h : p := by (with_reducible repeat (first | apply Kd.R_alloc | apply Kd.R_drewN | apply Kd.R_drew)); exact (Kd.R_mono (Kd.R_far (p := ⟨gb362, 1, none⟩) (Kd.R_far (p := ⟨gb362, 0, none⟩) (Kd.R_types HO349.out BK362.out (by decide)) (fun _ hk => hk.2) (.slice Ao32 t355.length co32)) (fun _ hk => hk.2) (.slice Ao35 t358.length co35)) (fun _ h_ => h_.1))) : p := h
theorem Z92 {p : Prop} (h : p := by (with_reducible repeat (first | apply Kd.R_alloc | apply Kd.R_drewN | apply Kd.R_drew)); exact (Kd.R_mono (Kd.R_far (p := ⟨gb362, 1, none⟩) (Kd.R_far (p := ⟨gb362, 0, none⟩) (Kd.R_types HO349.out BK362.out (by decide)) (fun _ hk => hk.2) (.slice Ao18 t355.length co18)) (fun _ hk => hk.2) (.slice Ao21 t358.length co21)) (fun _ h_ => h_.1))) : p := h
theorem Z93 {p : Prop} (h : p := by (with_reducible repeat (first | apply Kd.R_alloc | apply Kd.R_drewN | apply Kd.R_drew)); exact HO_269004.out) : p := h
theorem Z94 {p : Prop} (h : p := by (with_reducible repeat (first | apply Kd.R_alloc | apply Kd.R_drewN | apply Kd.R_drew)); exact HO_269002.out) : p := h
theorem Z95 {p : Prop} (h : p := by (with_reducible repeat (first | apply Kd.R_alloc | apply Kd.R_drewN | apply Kd.R_drew)); exact HO_269001.out) : p := h
theorem Z96 {p : Prop} (h : p := by (with_reducible repeat (first | apply Kd.S_alloc | apply Kd.S_drewN | apply Kd.S_drew)); exact HO360.out) : p := h
theorem Z97 {p : Prop} (h : p := by (with_reducible repeat (first | apply Kd.R_alloc | apply Kd.R_drewN | apply Kd.R_drew)); exact HO357.out) : p := h
theorem Z98 {p : Prop} (h : p := by refine bz ?_; refine blk_far ?_ NB130_131.out _; refine bz ?_; exact BK130.out) : p := h
theorem Z99 {p : Prop} (h : p := by refine bz ?_; exact BK268.out) : p := h
theorem Z100 {p : Prop} (h : p := by rw [hg]; exact (below_size Z14)) : p := h
theorem Z101 {p : Prop} (h : p := by refine bz ?_; exact BK215.out) : p := h
theorem Z102 {p : Prop} (h : p := by exact Kd.C_below HR0.out Z5) : p := h
theorem Z103 {p : Prop} (h : p := by (with_reducible repeat (first | apply Kd.R_alloc | apply Kd.R_drewN | apply Kd.R_drew)); exact (Kd.R_mono (Kd.R_far (p := ⟨gb268, 1, none⟩) (Kd.R_types HO276.out BK268.out (by decide)) (fun _ hk => hk.2) (.slice Ao75 t272.length co75)) (fun _ h_ => h_.1))) : p := h
theorem Z104 {p : Prop} (h : p := by (with_reducible repeat (first | apply Kd.R_alloc | apply Kd.R_drewN | apply Kd.R_drew)); exact (Kd.R_mono (Kd.R_far (p := ⟨gb268, 1, none⟩) (Kd.R_types HO276.out BK268.out (by decide)) (fun _ hk => hk.2) (.slice Ao64 t272.length co64)) (fun _ h_ => h_.1))) : p := h
theorem Z105 {p : Prop} (h : p := by (with_reducible repeat (first | apply Kd.R_alloc | apply Kd.R_drewN | apply Kd.R_drew)); exact (Kd.R_mono (Kd.R_far (p := ⟨gb268, 1, none⟩) (Kd.R_types HO276.out BK268.out (by decide)) (fun _ hk => hk.2) (.slice Ao53 t272.length co53)) (fun _ h_ => h_.1))) : p := h
theorem Z106 {p : Prop} (h : p := by (with_reducible repeat (first | apply Kd.R_alloc | apply Kd.R_drewN | apply Kd.R_drew)); exact (Kd.R_mono (Kd.R_far (p := ⟨gb268, 1, none⟩) (Kd.R_types HO276.out BK268.out (by decide)) (fun _ hk => hk.2) (.slice Ao18 t272.length co18)) (fun _ h_ => h_.1))) : p := h
theorem Z107 {p : Prop} (h : p := by (with_reducible repeat (first | apply Kd.R_alloc | apply Kd.R_drewN | apply Kd.R_drew)); exact (Kd.R_mono (Kd.R_far (p := ⟨gb165, 1, none⟩) (Kd.R_types HO171.out BK165.out (by decide)) (fun _ hk => hk.2) (.slice Ao14 t169.length co14)) (fun _ h_ => h_.1))) : p := h
theorem Z108 {p : Prop} (h : p := by rw [hg]; exact Nat.ne_of_lt (IsS77.lt (show IsS77 w0 _ g s0_0 s0_1 s0_2 from by repeat (first | (with_reducible first | exact HI0.out | apply IsS77.alloc | apply IsS77.drewN | apply IsS77.drew | apply IsS77.set_1 | apply IsS77.set_2) | exact HI0.out)))) : p := h
theorem Z109 {p : Prop} (h : p := by rw [hg]; exact Nat.ne_of_gt (IsS77.lt (show IsS77 w0 _ g s0_0 s0_1 s0_2 from by repeat (first | (with_reducible first | exact HI0.out | apply IsS77.alloc | apply IsS77.drewN | apply IsS77.drew | apply IsS77.set_1 | apply IsS77.set_2) | exact HI0.out)))) : p := h
theorem Z110 {p : Prop} (h : p := by (try simp only [List.map_toArray, List.map_cons, List.map_nil]); first | done | (rw [show (l0.drop (x5_2 : Int).toNat).length = (l0.length - x5_2.toNat) from List.length_drop] <;> rfl) | rfl | (simp only [List.length_drop, List.length_take]; rfl)) : p := h
theorem Z111 {p : Prop} (h : p := by refine bz ?_; refine blk_far ?_ NB164_165.out _; refine bz ?_; exact BK164.out) : p := h
theorem Z112 {p : Prop} (h : p := by first | rfl | (simp; done) | (simp only [← hji9, ← hji15, ← hji17] <;> (first | rfl | simp)) | (simp [*]; done)) : p := h
theorem Z113 {p : Prop} (h : p := by (with_reducible repeat (first | apply Kd.R_alloc | apply Kd.R_drewN | apply Kd.R_drew)); exact HO_10.out) : p := h
theorem Z114 {p : Prop} (h : p := by refine bz ?_; exact BK354.out) : p := h
theorem Z115 {p : Prop} (h : p := by refine bz ?_; exact BK333.out) : p := h
end Go.Proofs.YtmmjnbpoilicjaaGreatW.PrintWords
