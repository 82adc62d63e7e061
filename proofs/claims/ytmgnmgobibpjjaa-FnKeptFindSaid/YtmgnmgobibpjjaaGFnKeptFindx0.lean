/- What the Go functions that FnKeptFind reaches come to, walked step by step; there is no condition beyond those each statement names. -/
import Derived.Test.YtmgnmgobibpjjaaProg
import Derived.Below
import Derived.Deep.Draws
import Derived.Deep.AppendLies
import Derived.Maps.AppendAt
import Derived.OwnWalk
import Derived.Laws.BytesArg
import Derived.Laws.MakeOwn
import Derived.Laws.OwnMore
import Derived.Deep.OwnRows
import Derived.Tactics
import Derived.Lib.ConvBytes
import Derived.Laws.Slices
import Derived.WalkKit
import Derived.KernelRfl
import Derived.RowKit3
import Derived.Deep.LoopGhost
import Derived.Deep.QuietTactic
import Derived.BigQuiet
import Derived.WideLaws
import Derived.Deep.DeepCutAuto
import Derived.Deep.CutBlock
import Derived.Deep.RegionHeld3
import Derived.Laws.Rows
import Derived.Lib.AppendStr
import Derived.ArgAppend
import Derived.Laws.IdiomCopy
import Derived.OrdersHeld
import Derived.Laws.BitsLemmas
import Derived.RowKit
import Derived.Test.YtmgnmgobibpjjaaVKeptFindWords
import Derived.Test.YtmgnmgobibpjjaaVKeptFindLast
import Derived.Test.YtmgnmgobibpjjaaVKeptFindTab
import Derived.Test.YtmgnmgobibpjjaaVKeptFindFour
import Derived.Test.YtmgnmgobibpjjaaVKeptFindQPut
import Derived.Test.YtmgnmgobibpjjaaVKeptFindApart
import Derived.Test.YtmgnmgobibpjjaaVKeptFindArr
import Derived.Test.YtmgnmgobibpjjaaVKeptFindZeros
import Derived.Test.YtmgnmgobibpjjaaVKeptFindFoot
import Derived.Test.YtmgnmgobibpjjaaVKeptFindKept
import Derived.Test.YtmgnmgobibpjjaaVKeptFindShare
import Derived.Test.YtmgnmgobibpjjaaVKeptFindN
import Derived.Test.YtmgnmgobibpjjaaVKeptFindFootNe
import Derived.Test.YtmgnmgobibpjjaaVKeptFindAt
import Derived.Test.YtmgnmgobibpjjaaVKeptFindEqStruct
import Derived.Test.YtmgnmgobibpjjaaVKeptFindRepsOne
import Derived.Test.YtmgnmgobibpjjaaVKeptFindInv
import Derived.Test.YtmgnmgobibpjjaaVKeptFindInvWords
import Derived.Test.YtmgnmgobibpjjaaVKeptFindGuard
import Derived.Test.YtmgnmgobibpjjaaVKeptFindNEv
import Derived.Test.YtmgnmgobibpjjaaVKeptFindMore
import Derived.Test.YtmgnmgobibpjjaaVKeptFindClipK
namespace Go.Proofs.Ytmgnmgobibpjjaa.GFnKeptFind
open Go.RowKit Go.Proofs.YtmgnmgobibpjjaaVKeptFind.PrintWords Go.Proofs.YtmgnmgobibpjjaaVKeptFind.PrintLast Go.Proofs.YtmgnmgobibpjjaaVKeptFind.PrintMore
attribute [local go_sem] max2_int min2_int max_two min_two max_three min_three max_four min_four   -- for this text's walks alone
set_option linter.unusedVariables false
set_option linter.unusedSimpArgs false
-- Closing blocks of tactics that come again below: each is the default of a plain theorem's premise.
theorem z_0 {p : Prop} (h : p := by kernel_rfl) : p := h
theorem z_1 {p : Prop} (h : p := by rfl) : p := h
theorem z_2 {p : Prop} (h : p := by go_simp; rfl) : p := h
theorem z_3 {p : Prop} (h : p := by first | rfl | (simp; done) | (simp [*]; done)) : p := h
theorem z_4 {p : Prop} (h : p := by repeat (first | exact Drawn0.refl _ | apply Drawn0.step)) : p := h
theorem z_5 {p : Prop} (h : p := by decide) : p := h
theorem z_6 {p : Prop} (h : p := by omega) : p := h
theorem z_7 {p : Prop} (h : p := by first | (with_reducible assumption) | assumption) : p := h
theorem z_8 {p : Prop} (h : p := by repeat (first | (with_reducible first | exact HB.out | apply below_alloc | apply pw_below_drewN | apply below_drew1) | exact HB.out)) : p := h
theorem z_9 {p : Prop} (h : p := by first | (go_simp; done) | (go_simp; rfl)) : p := h
theorem z_10 {p : Prop} (h : p := by have := HK1.out; omega) : p := h
theorem z_11 {p : Prop} (h : p := by (with_reducible repeat (first | apply Kd.R_alloc | apply Kd.R_drewN | apply Kd.R_drew)); exact HO_5.out) : p := h
theorem z_12 {p : Prop} (h : p := by simp) : p := h
theorem z_13 {p : Prop} (h : p := by first | rfl | (simp [errW_none, errW_some] <;> rfl) | (simp [*, errW_none, errW_some] <;> rfl)) : p := h
theorem z_14 {p : Prop} (h : p := by (try simp only [List.map_toArray, List.map_cons, List.map_nil]); first | done | rfl | (simp only [List.length_drop, List.length_take]; rfl)) : p := h
theorem z_15 {p : Prop} (h : p := by first | rfl | (simp [errW_none, errW_some] <;> rfl) | (simp only [← hji5, ← hji7]; first | rfl | (simp [errW_none, errW_some] <;> rfl)) | (simp [*, errW_none, errW_some] <;> rfl)) : p := h
theorem z_16 {p : Prop} (h : p := by first | exact Kd.R_nil _ _ _ _ _ | exact Kd.N_nil _ _ _ _ _ | exact Kd.V_nil _ _ _ _ _ | exact Kd.Q_nil _ _ _ _ _ | exact Kd.S_nil _ _ _ _ _) : p := h
theorem z_17 {p : Prop} (h : p := by (with_reducible repeat (first | apply Kd.R_alloc | apply Kd.R_drewN | apply Kd.R_drew)); exact HO112.out) : p := h
theorem z_18 {p : Prop} (h : p := by exact (z_8)) : p := h
theorem z_19 {p : Prop} (h : p := by exact (below_size (z_8))) : p := h
theorem z_20 {p : Prop} (h : p := by rw [hg]; exact (below_size (z_8))) : p := h
theorem z_21 {p : Prop} (h : p := by (with_reducible repeat (first | refine blk_drewN ?_ _ | refine blk_drew ?_ | refine blk_alloc ?_ _)); exact BK125.out) : p := h
theorem z_22 {p : Prop} (h : p := by repeat (first | (with_reducible first | exact HB.out | apply below_alloc | apply pw_below_drewN | apply below_drew1 | refine below_set ?_ GE125.out) | exact HB.out)) : p := h
theorem z_23 {p : Prop} (h : p := by first | omega | exact Nat.le_refl _) : p := h
theorem z_24 {p : Prop} (h : p := by (with_reducible repeat (first | refine blk_drewN ?_ _ | refine blk_drew ?_ | refine blk_alloc ?_ _)); refine blk_put (cs := #[.string ((rd_T26 l0 x7_1).f0), .int .i64 ((rd_T26 l0 x7_1).f1), .int .i64 ((rd_T26 l0 x7_1).f2), .string ((rd_T26 l0 x7_1).f3), .int .i64 0]) ?_ 4 _ rfl; (with_reducible repeat (first | refine blk_drewN ?_ _ | refine blk_drew ?_ | refine blk_alloc ?_ _)); refine blk_put (cs := #[.string ((rd_T26 l0 x7_1).f0), .int .i64 ((rd_T26 l0 x7_1).f1), .int .i64 ((rd_T26 l0 x7_1).f2), .string (⟨#[]⟩ : ByteArray), .int .i64 0]) ?_ 3 _ rfl; (with_reducible repeat (first | refine blk_drewN ?_ _ | refine blk_drew ?_ | refine blk_alloc ?_ _)); refine blk_put (cs := #[.string ((rd_T26 l0 x7_1).f0), .int .i64 ((rd_T26 l0 x7_1).f1), .int .i64 0, .string (⟨#[]⟩ : ByteArray), .int .i64 0]) ?_ 2 _ rfl; (with_reducible repeat (first | refine blk_drewN ?_ _ | refine blk_drew ?_ | refine blk_alloc ?_ _)); refine blk_put (cs := #[.string ((rd_T26 l0 x7_1).f0), .int .i64 0, .int .i64 0, .string (⟨#[]⟩ : ByteArray), .int .i64 0]) ?_ 1 _ rfl; (with_reducible repeat (first | refine blk_drewN ?_ _ | refine blk_drew ?_ | refine blk_alloc ?_ _)); refine blk_put (cs := #[.string (⟨#[]⟩ : ByteArray), .int .i64 0, .int .i64 0, .string (⟨#[]⟩ : ByteArray), .int .i64 0]) ?_ 0 _ rfl; (with_reducible repeat (first | refine blk_drewN ?_ _ | refine blk_drew ?_ | refine blk_alloc ?_ _)); exact BK131.out) : p := h
theorem z_25 {p : Prop} (h : p := by repeat (first | (with_reducible first | exact HB.out | apply below_alloc | apply pw_below_drewN | apply below_drew1 | refine below_set ?_ GE131.out) | exact HB.out)) : p := h
theorem z_26 {p : Prop} (h : p := by (with_reducible repeat (first | refine blk_drewN ?_ _ | refine blk_drew ?_ | refine blk_alloc ?_ _)); exact BK131.out) : p := h
theorem z_27 {p : Prop} (h : p := by (with_reducible repeat (first | refine blk_drewN ?_ _ | refine blk_drew ?_ | refine blk_alloc ?_ _)); refine blk_put (cs := #[.string ((rd_T83 l0 x7_1).f0.f0), .int .i64 ((rd_T83 l0 x7_1).f0.f1), .int .i64 ((rd_T83 l0 x7_1).f0.f2), .string ((rd_T83 l0 x7_1).f0.f3), .int .i64 ((rd_T83 l0 x7_1).f0.f4), .int .i64 0]) ?_ 5 _ rfl; (with_reducible repeat (first | refine blk_drewN ?_ _ | refine blk_drew ?_ | refine blk_alloc ?_ _)); refine blk_put (cs := #[.string ((rd_T83 l0 x7_1).f0.f0), .int .i64 ((rd_T83 l0 x7_1).f0.f1), .int .i64 ((rd_T83 l0 x7_1).f0.f2), .string ((rd_T83 l0 x7_1).f0.f3), .int .i64 0, .int .i64 0]) ?_ 4 _ rfl; (with_reducible repeat (first | refine blk_drewN ?_ _ | refine blk_drew ?_ | refine blk_alloc ?_ _)); refine blk_put (cs := #[.string ((rd_T83 l0 x7_1).f0.f0), .int .i64 ((rd_T83 l0 x7_1).f0.f1), .int .i64 ((rd_T83 l0 x7_1).f0.f2), .string (⟨#[]⟩ : ByteArray), .int .i64 0, .int .i64 0]) ?_ 3 _ rfl; (with_reducible repeat (first | refine blk_drewN ?_ _ | refine blk_drew ?_ | refine blk_alloc ?_ _)); refine blk_put (cs := #[.string ((rd_T83 l0 x7_1).f0.f0), .int .i64 ((rd_T83 l0 x7_1).f0.f1), .int .i64 0, .string (⟨#[]⟩ : ByteArray), .int .i64 0, .int .i64 0]) ?_ 2 _ rfl; (with_reducible repeat (first | refine blk_drewN ?_ _ | refine blk_drew ?_ | refine blk_alloc ?_ _)); refine blk_put (cs := #[.string ((rd_T83 l0 x7_1).f0.f0), .int .i64 0, .int .i64 0, .string (⟨#[]⟩ : ByteArray), .int .i64 0, .int .i64 0]) ?_ 1 _ rfl; (with_reducible repeat (first | refine blk_drewN ?_ _ | refine blk_drew ?_ | refine blk_alloc ?_ _)); refine blk_put (cs := #[.string (⟨#[]⟩ : ByteArray), .int .i64 0, .int .i64 0, .string (⟨#[]⟩ : ByteArray), .int .i64 0, .int .i64 0]) ?_ 0 _ rfl; (with_reducible repeat (first | refine blk_drewN ?_ _ | refine blk_drew ?_ | refine blk_alloc ?_ _)); exact BK137.out) : p := h
theorem z_28 {p : Prop} (h : p := by repeat (first | (with_reducible first | exact HB.out | apply below_alloc | apply pw_below_drewN | apply below_drew1 | refine below_set ?_ GE137.out) | exact HB.out)) : p := h
theorem z_29 {p : Prop} (h : p := by (with_reducible repeat (first | refine blk_drewN ?_ _ | refine blk_drew ?_ | refine blk_alloc ?_ _)); exact BK137.out) : p := h
theorem z_30 {p : Prop} (h : p := by repeat (first | exact (Kd.C_below HR143.out (z_28)) | (with_reducible refine Kd.C_alloc ?_ _) | (with_reducible refine Kd.C_drewN ?_ _) | (with_reducible refine Kd.C_drew ?_))) : p := h
theorem z_31 {p : Prop} (h : p := by repeat (first | (with_reducible first | exact HK.out | apply KeepBut.set_ | apply keep_drewN | apply keep_drew | apply keep_alloc) | exact HK.out)) : p := h
theorem z_32 {p : Prop} (h : p := by repeat (first | (with_reducible first | exact HI0.out | apply IsS96.alloc | apply IsS96.drewN | apply IsS96.drew | apply IsS96.set_1) | exact HI0.out)) : p := h
theorem z_33 {p : Prop} (h : p := by repeat (first | (with_reducible first | exact HB.out | apply below_alloc | apply pw_below_drewN | apply below_drew1 | refine below_set ?_ (IsS96.ge HI0.out)) | exact HB.out)) : p := h
theorem z_34 {p : Prop} (h : p := by rw [hg]; exact (keep_size (w := w) (g := g) (row := none) (z_31))) : p := h
theorem z_35 {p : Prop} (h : p := by repeat (first | (with_reducible first | exact HI0.out | apply IsS96.alloc | apply IsS96.drewN | apply IsS96.drew | apply IsS96.set_1 | refine IsS96.far ?_ NB0_172.out _) | exact HI0.out)) : p := h
theorem z_36 {p : Prop} (h : p := by repeat (first | (with_reducible first | exact HB.out | apply below_alloc | apply pw_below_drewN | apply below_drew1 | refine below_set ?_ (IsS96.ge HI0.out) | refine below_set ?_ GE172.out) | exact HB.out)) : p := h
theorem z_37 {p : Prop} (h : p := by (with_reducible repeat (first | refine blk_drewN ?_ _ | refine blk_drew ?_ | refine blk_alloc ?_ _)); exact BK172.out) : p := h
theorem z_38 {p : Prop} (h : p := by repeat (first | (with_reducible first | exact HK.out | apply KeepBut.set_ | apply keep_drewN | apply keep_drew | apply keep_alloc | refine keep_far ?_ GW172.out _) | exact HK.out)) : p := h
theorem z_39 {p : Prop} (h : p := by rw [hg]; exact (keep_size (w := w) (g := g) (row := none) (z_38))) : p := h
theorem z_40 {p : Prop} (h : p := by repeat (first | (with_reducible first | exact HI0.out | apply IsS96.alloc | apply IsS96.drewN | apply IsS96.drew | apply IsS96.set_1 | refine IsS96.far ?_ NB0_172.out _ | refine IsS96.far ?_ NB0_179.out _) | exact HI0.out)) : p := h
theorem z_41 {p : Prop} (h : p := by repeat (first | (with_reducible first | exact HB.out | apply below_alloc | apply pw_below_drewN | apply below_drew1 | refine below_set ?_ (IsS96.ge HI0.out) | refine below_set ?_ GE172.out | refine below_set ?_ GE179.out) | exact HB.out)) : p := h
theorem z_42 {p : Prop} (h : p := by repeat (first | (with_reducible first | exact HK.out | apply KeepBut.set_ | apply keep_drewN | apply keep_drew | apply keep_alloc | refine keep_far ?_ GW172.out _ | refine keep_far ?_ GW179.out _) | exact HK.out)) : p := h
theorem z_43 {p : Prop} (h : p := by (with_reducible repeat (first | refine blk_drewN ?_ _ | refine blk_drew ?_ | refine blk_alloc ?_ _)); exact BK179.out) : p := h
theorem z_44 {p : Prop} (h : p := by exact (Reps.none _ _)) : p := h
theorem z_45 {p : Prop} (h : p := by (with_reducible repeat (first | apply Kd.R_alloc | apply Kd.R_drewN | apply Kd.R_drew)); exact HO200.out) : p := h
theorem z_46 {p : Prop} (h : p := by (with_reducible repeat (first | apply Kd.R_alloc | apply Kd.R_drewN | apply Kd.R_drew)); exact HO_10.out) : p := h
theorem z_47 {p : Prop} (h : p := by (with_reducible repeat (first | refine blk_drewN ?_ _ | refine blk_drew ?_ | refine blk_alloc ?_ _)); exact BK213.out) : p := h
theorem z_48 {p : Prop} (h : p := by exact (z_11)) : p := h
theorem z_49 {p : Prop} (h : p := by repeat (first | (with_reducible first | exact HK.out | apply KeepBut.set_ | apply keep_drewN | apply keep_drew | apply keep_alloc | refine keep_far ?_ GW213.out _) | exact HK.out)) : p := h
theorem z_50 {p : Prop} (h : p := by repeat (first | (with_reducible first | exact HI0.out | apply IsS96.alloc | apply IsS96.drewN | apply IsS96.drew | apply IsS96.set_1 | refine IsS96.far ?_ NB0_213.out _) | exact HI0.out)) : p := h
theorem z_51 {p : Prop} (h : p := by repeat (first | (with_reducible first | exact HB.out | apply below_alloc | apply pw_below_drewN | apply below_drew1 | refine below_set ?_ (IsS96.ge HI0.out) | refine below_set ?_ GE213.out) | exact HB.out)) : p := h
theorem z_52 {p : Prop} (h : p := by exact (fun _ _ => trivial)) : p := h
theorem z_53 {p : Prop} (h : p := by exact (keep_size (w := w) (g := g) (row := none) (z_31))) : p := h
theorem z_54 {p : Prop} (h : p := by (with_reducible repeat (first | refine blk_drewN ?_ _ | refine blk_drew ?_ | refine blk_alloc ?_ _)); exact BK229.out) : p := h
theorem z_55 {p : Prop} (h : p := by repeat (first | (with_reducible first | exact HB.out | apply below_alloc | apply pw_below_drewN | apply below_drew1 | refine below_set ?_ GE229.out) | exact HB.out)) : p := h
theorem z_56 {p : Prop} (h : p := by repeat (first | exact (Kd.C_below HR0.out HB.out) | (with_reducible refine Kd.C_alloc ?_ _) | (with_reducible refine Kd.C_drewN ?_ _) | (with_reducible refine Kd.C_drew ?_))) : p := h
theorem z_57 {p : Prop} (h : p := by (with_reducible repeat (first | refine blk_drewN ?_ _ | refine blk_drew ?_ | refine blk_alloc ?_ _)); exact BK239.out) : p := h
theorem z_58 {p : Prop} (h : p := by repeat (first | (with_reducible first | exact HB.out | apply below_alloc | apply pw_below_drewN | apply below_drew1 | refine below_set ?_ GE239.out) | exact HB.out)) : p := h
theorem z_59 {p : Prop} (h : p := by have := HK1.out; first | omega | exact Nat.le_refl _) : p := h
theorem z_60 {p : Prop} (h : p := by repeat (first | exact (Kd.C_below HR1.out HB.out) | (with_reducible refine Kd.C_alloc ?_ _) | (with_reducible refine Kd.C_drewN ?_ _) | (with_reducible refine Kd.C_drew ?_))) : p := h
theorem z_61 {p : Prop} (h : p := by (with_reducible repeat (first | refine blk_drewN ?_ _ | refine blk_drew ?_ | refine blk_alloc ?_ _)); exact BK250.out) : p := h
theorem z_62 {p : Prop} (h : p := by repeat (first | (with_reducible first | exact HB.out | apply below_alloc | apply pw_below_drewN | apply below_drew1 | refine below_set ?_ GE250.out) | exact HB.out)) : p := h
theorem z_63 {p : Prop} (h : p := by rw [hg]; exact (below_size (z_62))) : p := h
theorem z_64 {p : Prop} (h : p := by repeat (first | (with_reducible first | exact HB.out | apply below_alloc | apply pw_below_drewN | apply below_drew1 | refine below_set ?_ GE250.out | refine below_set ?_ GE257.out) | exact HB.out)) : p := h
theorem z_65 {p : Prop} (h : p := by exact Kd.C_below HR0.out (z_64)) : p := h
theorem z_66 {p : Prop} (h : p := by (with_reducible repeat (first | refine blk_drewN ?_ _ | refine blk_drew ?_ | refine blk_alloc ?_ _)); refine blk_far ?_ NB250_257.out _; (with_reducible repeat (first | refine blk_drewN ?_ _ | refine blk_drew ?_ | refine blk_alloc ?_ _)); refine blk_far ?_ NB250_257.out _; (with_reducible repeat (first | refine blk_drewN ?_ _ | refine blk_drew ?_ | refine blk_alloc ?_ _)); refine blk_far ?_ NB250_257.out _; (with_reducible repeat (first | refine blk_drewN ?_ _ | refine blk_drew ?_ | refine blk_alloc ?_ _)); refine blk_far ?_ NB250_257.out _; (with_reducible repeat (first | refine blk_drewN ?_ _ | refine blk_drew ?_ | refine blk_alloc ?_ _)); refine blk_far ?_ NB250_257.out _; (with_reducible repeat (first | refine blk_drewN ?_ _ | refine blk_drew ?_ | refine blk_alloc ?_ _)); exact BK250.out) : p := h
theorem z_67 {p : Prop} (h : p := by (with_reducible repeat (first | refine blk_drewN ?_ _ | refine blk_drew ?_ | refine blk_alloc ?_ _)); refine blk_put (cs := #[.string t251, .int .i64 t252, .int .i64 t253, .string t254, .int .i64 0]) ?_ 4 _ rfl; (with_reducible repeat (first | refine blk_drewN ?_ _ | refine blk_drew ?_ | refine blk_alloc ?_ _)); refine blk_put (cs := #[.string t251, .int .i64 t252, .int .i64 t253, .string (⟨#[]⟩ : ByteArray), .int .i64 0]) ?_ 3 _ rfl; (with_reducible repeat (first | refine blk_drewN ?_ _ | refine blk_drew ?_ | refine blk_alloc ?_ _)); refine blk_put (cs := #[.string t251, .int .i64 t252, .int .i64 0, .string (⟨#[]⟩ : ByteArray), .int .i64 0]) ?_ 2 _ rfl; (with_reducible repeat (first | refine blk_drewN ?_ _ | refine blk_drew ?_ | refine blk_alloc ?_ _)); refine blk_put (cs := #[.string t251, .int .i64 0, .int .i64 0, .string (⟨#[]⟩ : ByteArray), .int .i64 0]) ?_ 1 _ rfl; (with_reducible repeat (first | refine blk_drewN ?_ _ | refine blk_drew ?_ | refine blk_alloc ?_ _)); refine blk_put (cs := #[.string (⟨#[]⟩ : ByteArray), .int .i64 0, .int .i64 0, .string (⟨#[]⟩ : ByteArray), .int .i64 0]) ?_ 0 _ rfl; (with_reducible repeat (first | refine blk_drewN ?_ _ | refine blk_drew ?_ | refine blk_alloc ?_ _)); exact BK257.out) : p := h
theorem z_68 {p : Prop} (h : p := by (with_reducible repeat (first | refine blk_drewN ?_ _ | refine blk_drew ?_ | refine blk_alloc ?_ _)); exact BK257.out) : p := h
theorem z_69 {p : Prop} (h : p := by (with_reducible repeat (first | apply Kd.Q_alloc | apply Kd.Q_drewN | apply Kd.Q_drew)); exact HO_13.out) : p := h
theorem z_70 {p : Prop} (h : p := by exact (z_64)) : p := h
theorem z_71 {p : Prop} (h : p := by exact (below_size (z_64))) : p := h
theorem z_72 {p : Prop} (h : p := by have := World.block_lt_of_cell? _ _ hw280_0; first | rwa [add_block] at this | exact this) : p := h
theorem z_73 {p : Prop} (h : p := by first | exact Nat.ne_of_lt (Nat.lt_of_lt_of_le (z_72) GW250.out) | (rw [add_block]; exact Nat.ne_of_lt (Nat.lt_of_lt_of_le (z_72) GW250.out)) | (show (Addr.add _ _).block ≠ _; rw [add_block]; exact Nat.ne_of_lt (Nat.lt_of_lt_of_le (z_72) GW250.out)) | (dsimp only; exact Nat.ne_of_lt (Nat.lt_of_lt_of_le (z_72) GW250.out))) : p := h
theorem z_74 {p : Prop} (h : p := by have := World.block_lt_of_cell? _ _ hw280_1; first | rwa [add_block] at this | exact this) : p := h
theorem z_75 {p : Prop} (h : p := by first | exact Nat.ne_of_lt (Nat.lt_of_lt_of_le (z_74) GW250.out) | (rw [add_block]; exact Nat.ne_of_lt (Nat.lt_of_lt_of_le (z_74) GW250.out)) | (show (Addr.add _ _).block ≠ _; rw [add_block]; exact Nat.ne_of_lt (Nat.lt_of_lt_of_le (z_74) GW250.out)) | (dsimp only; exact Nat.ne_of_lt (Nat.lt_of_lt_of_le (z_74) GW250.out))) : p := h
theorem z_76 {p : Prop} (h : p := by have := World.block_lt_of_cell? _ _ hw280_2; first | rwa [add_block] at this | exact this) : p := h
theorem z_77 {p : Prop} (h : p := by first | exact Nat.ne_of_lt (Nat.lt_of_lt_of_le (z_76) GW250.out) | (rw [add_block]; exact Nat.ne_of_lt (Nat.lt_of_lt_of_le (z_76) GW250.out)) | (show (Addr.add _ _).block ≠ _; rw [add_block]; exact Nat.ne_of_lt (Nat.lt_of_lt_of_le (z_76) GW250.out)) | (dsimp only; exact Nat.ne_of_lt (Nat.lt_of_lt_of_le (z_76) GW250.out))) : p := h
theorem z_78 {p : Prop} (h : p := by have := World.block_lt_of_cell? _ _ hw280_3; first | rwa [add_block] at this | exact this) : p := h
theorem z_79 {p : Prop} (h : p := by first | exact Nat.ne_of_lt (Nat.lt_of_lt_of_le (z_78) GW250.out) | (rw [add_block]; exact Nat.ne_of_lt (Nat.lt_of_lt_of_le (z_78) GW250.out)) | (show (Addr.add _ _).block ≠ _; rw [add_block]; exact Nat.ne_of_lt (Nat.lt_of_lt_of_le (z_78) GW250.out)) | (dsimp only; exact Nat.ne_of_lt (Nat.lt_of_lt_of_le (z_78) GW250.out))) : p := h
theorem z_80 {p : Prop} (h : p := by have := World.block_lt_of_cell? _ _ hw280_4; first | rwa [add_block] at this | exact this) : p := h
theorem z_81 {p : Prop} (h : p := by first | exact Nat.ne_of_lt (Nat.lt_of_lt_of_le (z_80) GW250.out) | (rw [add_block]; exact Nat.ne_of_lt (Nat.lt_of_lt_of_le (z_80) GW250.out)) | (show (Addr.add _ _).block ≠ _; rw [add_block]; exact Nat.ne_of_lt (Nat.lt_of_lt_of_le (z_80) GW250.out)) | (dsimp only; exact Nat.ne_of_lt (Nat.lt_of_lt_of_le (z_80) GW250.out))) : p := h
theorem z_82 {p : Prop} (h : p := by have := World.block_lt_of_cell? _ _ hw280_5; first | rwa [add_block] at this | exact this) : p := h
theorem z_83 {p : Prop} (h : p := by first | exact Nat.ne_of_lt (Nat.lt_of_lt_of_le (z_82) GW250.out) | (rw [add_block]; exact Nat.ne_of_lt (Nat.lt_of_lt_of_le (z_82) GW250.out)) | (show (Addr.add _ _).block ≠ _; rw [add_block]; exact Nat.ne_of_lt (Nat.lt_of_lt_of_le (z_82) GW250.out)) | (dsimp only; exact Nat.ne_of_lt (Nat.lt_of_lt_of_le (z_82) GW250.out))) : p := h
theorem z_84 {p : Prop} (h : p := by exact (z_69)) : p := h
theorem z_85 {p : Prop} (h : p := by (with_reducible repeat (first | refine blk_drewN ?_ _ | refine blk_drew ?_ | refine blk_alloc ?_ _)); refine blk_put (cs := #[.string t251, .int .i64 t252, .int .i64 t253, .string t254, .int .i64 x251004_2]) ?_ 4 _ rfl; (with_reducible repeat (first | refine blk_drewN ?_ _ | refine blk_drew ?_ | refine blk_alloc ?_ _)); refine blk_put (cs := #[.string t251, .int .i64 t252, .int .i64 t253, .string x251003_2, .int .i64 x251004_2]) ?_ 3 _ rfl; (with_reducible repeat (first | refine blk_drewN ?_ _ | refine blk_drew ?_ | refine blk_alloc ?_ _)); refine blk_put (cs := #[.string t251, .int .i64 t252, .int .i64 x251002_2, .string x251003_2, .int .i64 x251004_2]) ?_ 2 _ rfl; (with_reducible repeat (first | refine blk_drewN ?_ _ | refine blk_drew ?_ | refine blk_alloc ?_ _)); refine blk_put (cs := #[.string t251, .int .i64 x251001_2, .int .i64 x251002_2, .string x251003_2, .int .i64 x251004_2]) ?_ 1 _ rfl; (with_reducible repeat (first | refine blk_drewN ?_ _ | refine blk_drew ?_ | refine blk_alloc ?_ _)); refine blk_put (cs := #[.string x251000_2, .int .i64 x251001_2, .int .i64 x251002_2, .string x251003_2, .int .i64 x251004_2]) ?_ 0 _ rfl; (with_reducible repeat (first | refine blk_drewN ?_ _ | refine blk_drew ?_ | refine blk_alloc ?_ _)); exact BK250.out) : p := h
theorem z_86 {p : Prop} (h : p := by (with_reducible repeat (first | apply Kd.R_alloc | apply Kd.R_drewN | apply Kd.R_drew)); exact HO288.out) : p := h
theorem z_87 {p : Prop} (h : p := by (with_reducible repeat (first | apply Kd.Q_alloc | apply Kd.Q_drewN | apply Kd.Q_drew)); exact HO_7.out) : p := h
theorem z_88 {p : Prop} (h : p := by have h_ : (0 : Int) < ((x7_1.length : Int) : Int) := of_decide_eq_true (z_7); first | exact h_ | (have e_ := (Kd.Q_reads' HO_7.out).1; omega) | simpa using h_) : p := h
theorem z_89 {p : Prop} (h : p := by repeat (first | (with_reducible first | exact HI316.out | apply IsS96.alloc | apply IsS96.drewN | apply IsS96.drew | apply IsS96.set_1) | exact HI316.out)) : p := h
theorem z_90 {p : Prop} (h : p := by repeat (first | (with_reducible first | exact HB.out | apply below_alloc | apply pw_below_drewN | apply below_drew1 | refine below_set ?_ (IsS96.ge HI316.out)) | exact HB.out)) : p := h
theorem z_91 {p : Prop} (h : p := by (with_reducible repeat (first | apply Kd.R_alloc | apply Kd.R_drewN | apply Kd.R_drew)); exact HO319.out) : p := h
theorem z_92 {p : Prop} (h : p := by (with_reducible repeat (first | apply Kd.Q_alloc | apply Kd.Q_drewN | apply Kd.Q_drew)); exact HO323.out) : p := h
theorem z_93 {p : Prop} (h : p := by repeat (first | exact HR0.out | (with_reducible refine Kd.C_alloc ?_ _) | (with_reducible refine Kd.C_drewN ?_ _) | (with_reducible refine Kd.C_drew ?_))) : p := h
theorem z_94 {p : Prop} (h : p := by (with_reducible repeat (first | refine blk_drewN ?_ _ | refine blk_drew ?_ | refine blk_alloc ?_ _)); exact BK363.out) : p := h
theorem z_95 {p : Prop} (h : p := by repeat (first | (with_reducible first | exact HB.out | apply below_alloc | apply pw_below_drewN | apply below_drew1 | refine below_set ?_ GE363.out) | exact HB.out)) : p := h
theorem z_96 {p : Prop} (h : p := by have := World.block_lt_of_cell? _ _ hw369_0; first | rwa [add_block] at this | exact this) : p := h
theorem z_97 {p : Prop} (h : p := by first | exact Nat.ne_of_lt (Nat.lt_of_lt_of_le (z_96) GW363.out) | (rw [add_block]; exact Nat.ne_of_lt (Nat.lt_of_lt_of_le (z_96) GW363.out)) | (show (Addr.add _ _).block ≠ _; rw [add_block]; exact Nat.ne_of_lt (Nat.lt_of_lt_of_le (z_96) GW363.out)) | (dsimp only; exact Nat.ne_of_lt (Nat.lt_of_lt_of_le (z_96) GW363.out))) : p := h
theorem z_98 {p : Prop} (h : p := by have := World.block_lt_of_cell? _ _ hw369_1; first | rwa [add_block] at this | exact this) : p := h
theorem z_99 {p : Prop} (h : p := by first | exact Nat.ne_of_lt (Nat.lt_of_lt_of_le (z_98) GW363.out) | (rw [add_block]; exact Nat.ne_of_lt (Nat.lt_of_lt_of_le (z_98) GW363.out)) | (show (Addr.add _ _).block ≠ _; rw [add_block]; exact Nat.ne_of_lt (Nat.lt_of_lt_of_le (z_98) GW363.out)) | (dsimp only; exact Nat.ne_of_lt (Nat.lt_of_lt_of_le (z_98) GW363.out))) : p := h
theorem z_100 {p : Prop} (h : p := by have := World.block_lt_of_cell? _ _ hw369_2; first | rwa [add_block] at this | exact this) : p := h
theorem z_101 {p : Prop} (h : p := by first | exact Nat.ne_of_lt (Nat.lt_of_lt_of_le (z_100) GW363.out) | (rw [add_block]; exact Nat.ne_of_lt (Nat.lt_of_lt_of_le (z_100) GW363.out)) | (show (Addr.add _ _).block ≠ _; rw [add_block]; exact Nat.ne_of_lt (Nat.lt_of_lt_of_le (z_100) GW363.out)) | (dsimp only; exact Nat.ne_of_lt (Nat.lt_of_lt_of_le (z_100) GW363.out))) : p := h
theorem z_102 {p : Prop} (h : p := by have := World.block_lt_of_cell? _ _ hw369_3; first | rwa [add_block] at this | exact this) : p := h
theorem z_103 {p : Prop} (h : p := by first | exact Nat.ne_of_lt (Nat.lt_of_lt_of_le (z_102) GW363.out) | (rw [add_block]; exact Nat.ne_of_lt (Nat.lt_of_lt_of_le (z_102) GW363.out)) | (show (Addr.add _ _).block ≠ _; rw [add_block]; exact Nat.ne_of_lt (Nat.lt_of_lt_of_le (z_102) GW363.out)) | (dsimp only; exact Nat.ne_of_lt (Nat.lt_of_lt_of_le (z_102) GW363.out))) : p := h
theorem z_104 {p : Prop} (h : p := by have := World.block_lt_of_cell? _ _ hw369_4; first | rwa [add_block] at this | exact this) : p := h
theorem z_105 {p : Prop} (h : p := by first | exact Nat.ne_of_lt (Nat.lt_of_lt_of_le (z_104) GW363.out) | (rw [add_block]; exact Nat.ne_of_lt (Nat.lt_of_lt_of_le (z_104) GW363.out)) | (show (Addr.add _ _).block ≠ _; rw [add_block]; exact Nat.ne_of_lt (Nat.lt_of_lt_of_le (z_104) GW363.out)) | (dsimp only; exact Nat.ne_of_lt (Nat.lt_of_lt_of_le (z_104) GW363.out))) : p := h
theorem z_106 {p : Prop} (h : p := by have := World.block_lt_of_cell? _ _ hw369_5; first | rwa [add_block] at this | exact this) : p := h
theorem z_107 {p : Prop} (h : p := by first | exact Nat.ne_of_lt (Nat.lt_of_lt_of_le (z_106) GW363.out) | (rw [add_block]; exact Nat.ne_of_lt (Nat.lt_of_lt_of_le (z_106) GW363.out)) | (show (Addr.add _ _).block ≠ _; rw [add_block]; exact Nat.ne_of_lt (Nat.lt_of_lt_of_le (z_106) GW363.out)) | (dsimp only; exact Nat.ne_of_lt (Nat.lt_of_lt_of_le (z_106) GW363.out))) : p := h
theorem z_108 {p : Prop} (h : p := by rw [hg]; exact (below_size (z_95))) : p := h
theorem z_109 {p : Prop} (h : p := by rw [hg]; exact Nat.ne_of_lt (blk_lt (g := gb363) (o := .cells #[.string (⟨#[]⟩ : ByteArray), .int .i64 0, .int .i64 0, .string (⟨#[]⟩ : ByteArray), .int .i64 0] 26 (0, 0)) (z_94))) : p := h
theorem z_110 {p : Prop} (h : p := by rw [hg]; exact Nat.ne_of_gt (blk_lt (g := gb363) (o := .cells #[.string (⟨#[]⟩ : ByteArray), .int .i64 0, .int .i64 0, .string (⟨#[]⟩ : ByteArray), .int .i64 0] 26 (0, 0)) (z_94))) : p := h
theorem z_111 {p : Prop} (h : p := by repeat (first | (with_reducible first | exact HB.out | apply below_alloc | apply pw_below_drewN | apply below_drew1 | refine below_set ?_ GE363.out | refine below_set ?_ GE375.out) | exact HB.out)) : p := h
theorem z_112 {p : Prop} (h : p := by exact Kd.C_below HR0.out (z_111)) : p := h
theorem z_113 {p : Prop} (h : p := by (with_reducible repeat (first | refine blk_drewN ?_ _ | refine blk_drew ?_ | refine blk_alloc ?_ _)); refine blk_far ?_ NB363_375.out _; (with_reducible repeat (first | refine blk_drewN ?_ _ | refine blk_drew ?_ | refine blk_alloc ?_ _)); refine blk_far ?_ NB363_375.out _; (with_reducible repeat (first | refine blk_drewN ?_ _ | refine blk_drew ?_ | refine blk_alloc ?_ _)); refine blk_far ?_ NB363_375.out _; (with_reducible repeat (first | refine blk_drewN ?_ _ | refine blk_drew ?_ | refine blk_alloc ?_ _)); refine blk_far ?_ NB363_375.out _; (with_reducible repeat (first | refine blk_drewN ?_ _ | refine blk_drew ?_ | refine blk_alloc ?_ _)); refine blk_far ?_ NB363_375.out _; (with_reducible repeat (first | refine blk_drewN ?_ _ | refine blk_drew ?_ | refine blk_alloc ?_ _)); exact BK363.out) : p := h
theorem z_114 {p : Prop} (h : p := by (with_reducible repeat (first | refine blk_drewN ?_ _ | refine blk_drew ?_ | refine blk_alloc ?_ _)); refine blk_put (cs := #[.string t370, .int .i64 t371, .int .i64 t372, .string t373, .int .i64 0]) ?_ 4 _ rfl; (with_reducible repeat (first | refine blk_drewN ?_ _ | refine blk_drew ?_ | refine blk_alloc ?_ _)); refine blk_put (cs := #[.string t370, .int .i64 t371, .int .i64 t372, .string (⟨#[]⟩ : ByteArray), .int .i64 0]) ?_ 3 _ rfl; (with_reducible repeat (first | refine blk_drewN ?_ _ | refine blk_drew ?_ | refine blk_alloc ?_ _)); refine blk_put (cs := #[.string t370, .int .i64 t371, .int .i64 0, .string (⟨#[]⟩ : ByteArray), .int .i64 0]) ?_ 2 _ rfl; (with_reducible repeat (first | refine blk_drewN ?_ _ | refine blk_drew ?_ | refine blk_alloc ?_ _)); refine blk_put (cs := #[.string t370, .int .i64 0, .int .i64 0, .string (⟨#[]⟩ : ByteArray), .int .i64 0]) ?_ 1 _ rfl; (with_reducible repeat (first | refine blk_drewN ?_ _ | refine blk_drew ?_ | refine blk_alloc ?_ _)); refine blk_put (cs := #[.string (⟨#[]⟩ : ByteArray), .int .i64 0, .int .i64 0, .string (⟨#[]⟩ : ByteArray), .int .i64 0]) ?_ 0 _ rfl; (with_reducible repeat (first | refine blk_drewN ?_ _ | refine blk_drew ?_ | refine blk_alloc ?_ _)); exact BK375.out) : p := h
theorem z_115 {p : Prop} (h : p := by (with_reducible repeat (first | refine blk_drewN ?_ _ | refine blk_drew ?_ | refine blk_alloc ?_ _)); exact BK375.out) : p := h
theorem z_116 {p : Prop} (h : p := by exact (z_111)) : p := h
theorem z_117 {p : Prop} (h : p := by exact (below_size (z_111))) : p := h
theorem z_118 {p : Prop} (h : p := by repeat (first | (with_reducible exact HR388.out) | (with_reducible refine Kd.C_alloc ?_ _) | (with_reducible refine Kd.C_drewN ?_ _) | (with_reducible refine Kd.C_drew ?_) | exact HR388.out)) : p := h
theorem z_119 {p : Prop} (h : p := by (with_reducible repeat (first | apply Kd.R_alloc | apply Kd.R_drewN | apply Kd.R_drew)); exact HO384.out) : p := h
theorem z_120 {p : Prop} (h : p := by (with_reducible repeat (first | refine blk_drewN ?_ _ | refine blk_drew ?_ | refine blk_alloc ?_ _)); refine blk_put (cs := #[.string t370, .int .i64 t371, .int .i64 t372, .string t373, .int .i64 0]) ?_ 4 _ rfl; (with_reducible repeat (first | refine blk_drewN ?_ _ | refine blk_drew ?_ | refine blk_alloc ?_ _)); refine blk_put (cs := #[.string t370, .int .i64 t371, .int .i64 t372, .string (⟨#[]⟩ : ByteArray), .int .i64 0]) ?_ 3 _ rfl; (with_reducible repeat (first | refine blk_drewN ?_ _ | refine blk_drew ?_ | refine blk_alloc ?_ _)); refine blk_put (cs := #[.string t370, .int .i64 t371, .int .i64 0, .string (⟨#[]⟩ : ByteArray), .int .i64 0]) ?_ 2 _ rfl; (with_reducible repeat (first | refine blk_drewN ?_ _ | refine blk_drew ?_ | refine blk_alloc ?_ _)); refine blk_put (cs := #[.string t370, .int .i64 0, .int .i64 0, .string (⟨#[]⟩ : ByteArray), .int .i64 0]) ?_ 1 _ rfl; (with_reducible repeat (first | refine blk_drewN ?_ _ | refine blk_drew ?_ | refine blk_alloc ?_ _)); refine blk_put (cs := #[.string (⟨#[]⟩ : ByteArray), .int .i64 0, .int .i64 0, .string (⟨#[]⟩ : ByteArray), .int .i64 0]) ?_ 0 _ rfl; (with_reducible repeat (first | refine blk_drewN ?_ _ | refine blk_drew ?_ | refine blk_alloc ?_ _)); exact BK363.out) : p := h
theorem z_121 {p : Prop} (h : p := by repeat (first | (with_reducible exact HR398.out) | (with_reducible refine Kd.C_alloc ?_ _) | (with_reducible refine Kd.C_drewN ?_ _) | (with_reducible refine Kd.C_drew ?_) | exact HR398.out)) : p := h
theorem z_122 {p : Prop} (h : p := by (with_reducible repeat (first | apply Kd.R_alloc | apply Kd.R_drewN | apply Kd.R_drew)); exact HO394.out) : p := h
theorem z_123 {p : Prop} (h : p := by rw [hg]; exact below_size HB.out) : p := h
theorem z_124 {p : Prop} (h : p := by rw [hg]; exact Nat.ne_of_lt (blk_lt BKo.out)) : p := h
theorem z_125 {p : Prop} (h : p := by rw [hg]; exact Nat.ne_of_lt (blk_lt BKl.out)) : p := h
theorem z_126 {p : Prop} (h : p := by rw [hg]; exact Nat.ne_of_lt (blk_lt BKn.out)) : p := h
theorem z_127 {p : Prop} (h : p := by first | rfl | (simp [*]; done)) : p := h
theorem z_128 {p : Prop} (h : p := by (with_reducible refine Kd.R_far ?_ (fun _ hk => hk.2) _); (with_reducible refine Kd.R_far ?_ (fun _ hk => hk.2) _); (with_reducible refine Kd.R_far ?_ (fun _ hk => hk.2) _); (with_reducible refine Kd.R_far ?_ (fun _ hk => hk.2) _); (with_reducible refine Kd.R_far ?_ (fun _ hk => hk.2) _); exact Kd.R_types HO.out BK8006.out (z_5)) : p := h
theorem z_129 {p : Prop} (h : p := by (with_reducible refine blk_far ?_ NEBKo_8006 _); (with_reducible refine blk_far ?_ NEBKo_8006 _); (with_reducible refine blk_far ?_ NEBKo_8006 _); (with_reducible refine blk_far ?_ NEBKo_8006 _); (with_reducible refine blk_far ?_ NEBKo_8006 _); exact BKo.out) : p := h
theorem z_130 {p : Prop} (h : p := by (with_reducible refine blk_far ?_ NEBKl_8006 _); (with_reducible refine blk_far ?_ NEBKl_8006 _); (with_reducible refine blk_far ?_ NEBKl_8006 _); (with_reducible refine blk_far ?_ NEBKl_8006 _); (with_reducible refine blk_far ?_ NEBKl_8006 _); exact BKl.out) : p := h
theorem z_131 {p : Prop} (h : p := by (with_reducible refine blk_far ?_ NEBKn_8006 _); (with_reducible refine blk_far ?_ NEBKn_8006 _); (with_reducible refine blk_far ?_ NEBKn_8006 _); (with_reducible refine blk_far ?_ NEBKn_8006 _); (with_reducible refine blk_far ?_ NEBKn_8006 _); exact BKn.out) : p := h
theorem z_132 {p : Prop} (h : p := by (with_reducible refine below_set ?_ GE8006.out); (with_reducible refine below_set ?_ GE8006.out); (with_reducible refine below_set ?_ GE8006.out); (with_reducible refine below_set ?_ GE8006.out); (with_reducible refine below_set ?_ GE8006.out); exact HB.out) : p := h
theorem z_133 {p : Prop} (h : p := by repeat (first | exact (Kd.V_reads' HO0.out).2.2 | (with_reducible refine Kd.C_alloc ?_ _) | (with_reducible refine Kd.C_drewN ?_ _) | (with_reducible refine Kd.C_drew ?_))) : p := h
theorem z_134 {p : Prop} (h : p := by exact (Kd.V_reads' HO0.out).2.1) : p := h
theorem z_135 {p : Prop} (h : p := by (with_reducible repeat (first | apply Kd.V_alloc | apply Kd.V_drewN | apply Kd.V_drew)); exact HO0.out) : p := h
theorem z_136 {p : Prop} (h : p := by (with_reducible repeat (first | apply Kd.V_alloc | apply Kd.V_drewN | apply Kd.V_drew)); exact HO_0.out) : p := h
theorem z_137 {p : Prop} (h : p := by first | exact ⟨(.inr (hk.1)), hk.2⟩ | exact (.inr (hk))) : p := h
theorem z_138 {p : Prop} (h : p := by repeat (first | exact (Kd.V_reads' HO_0.out).2.2 | (with_reducible refine Kd.C_alloc ?_ _) | (with_reducible refine Kd.C_drewN ?_ _) | (with_reducible refine Kd.C_drew ?_))) : p := h
theorem z_139 {p : Prop} (h : p := by exact (Kd.V_reads' HO_0.out).2.1) : p := h
theorem z_140 {p : Prop} (h : p := by (with_reducible repeat (first | apply Kd.Q_alloc | apply Kd.Q_drewN | apply Kd.Q_drew)); exact HO425.out) : p := h
theorem z_141 {p : Prop} (h : p := by (with_reducible repeat (first | apply Kd.Q_alloc | apply Kd.Q_drewN | apply Kd.Q_drew)); exact Kd.Q_mono (Kd.Q_far (p := ⟨gb432, 4, none⟩) (Kd.Q_far (p := ⟨gb432, 3, none⟩) (Kd.Q_far (p := ⟨gb432, 2, none⟩) (Kd.Q_far (p := ⟨gb432, 1, none⟩) (Kd.Q_far (p := ⟨gb432, 0, none⟩) (Kd.Q_types HO425.out BK432.out (z_5)) (fun _ hk => hk.2) (.string t426)) (fun _ hk => hk.2) (.int .i64 t427)) (fun _ hk => hk.2) (.int .i64 t428)) (fun _ hk => hk.2) (.string t429)) (fun _ hk => hk.2) (.int .i64 t430)) (fun _ hk => hk.1.1)) : p := h
theorem z_142 {p : Prop} (h : p := by repeat (first | (with_reducible first | exact HB.out | apply below_alloc | apply pw_below_drewN | apply below_drew1 | refine below_set ?_ GE432.out) | exact HB.out)) : p := h
theorem z_143 {p : Prop} (h : p := by repeat (first | exact (Kd.R_reads' HO440.out).2.2 | (with_reducible refine Kd.C_alloc ?_ _) | (with_reducible refine Kd.C_drewN ?_ _) | (with_reducible refine Kd.C_drew ?_))) : p := h
theorem z_144 {p : Prop} (h : p := by (with_reducible repeat (first | apply Kd.Q_alloc | apply Kd.Q_drewN | apply Kd.Q_drew)); exact HO438.out) : p := h
theorem z_145 {p : Prop} (h : p := by (with_reducible repeat (first | apply Kd.R_alloc | apply Kd.R_drewN | apply Kd.R_drew)); exact HO440.out) : p := h
theorem z_146 {p : Prop} (h : p := by (with_reducible repeat (first | apply Kd.R_alloc | apply Kd.R_drewN | apply Kd.R_drew)); exact HO445.out) : p := h
theorem z_147 {p : Prop} (h : p := by (with_reducible repeat (first | apply Kd.Q_alloc | apply Kd.Q_drewN | apply Kd.Q_drew)); exact Kd.Q_mono HO438.out (fun _ hk => hk.2)) : p := h
theorem z_148 {p : Prop} (h : p := by (with_reducible repeat (first | apply Kd.R_alloc | apply Kd.R_drewN | apply Kd.R_drew)); exact Kd.R_mono HO445.out (fun _ hk => hk.2)) : p := h
theorem z_149 {p : Prop} (h : p := by repeat (first | exact (Kd.Q_reads' HO_3.out).2.2 | (with_reducible refine Kd.C_alloc ?_ _) | (with_reducible refine Kd.C_drewN ?_ _) | (with_reducible refine Kd.C_drew ?_))) : p := h
theorem z_150 {p : Prop} (h : p := by (with_reducible repeat (first | apply Kd.Q_alloc | apply Kd.Q_drewN | apply Kd.Q_drew)); exact HO_3.out) : p := h
theorem z_151 {p : Prop} (h : p := by (with_reducible repeat (first | apply Kd.R_alloc | apply Kd.R_drewN | apply Kd.R_drew)); exact HO_4.out) : p := h
theorem z_152 {p : Prop} (h : p := by (with_reducible repeat (first | apply Kd.R_alloc | apply Kd.R_drewN | apply Kd.R_drew)); exact HO_7.out) : p := h
theorem z_153 {p : Prop} (h : p := by repeat (first | exact (Kd.R_reads' HO_4.out).2.2 | (with_reducible refine Kd.C_alloc ?_ _) | (with_reducible refine Kd.C_drewN ?_ _) | (with_reducible refine Kd.C_drew ?_))) : p := h
theorem z_154 {p : Prop} (h : p := by exact (Kd.R_reads' HO_4.out).2.1) : p := h
theorem z_155 {p : Prop} (h : p := by (with_reducible repeat (first | apply Kd.R_alloc | apply Kd.R_drewN | apply Kd.R_drew)); exact Kd.R_mono HO_7.out (fun _ hk => trivial)) : p := h
theorem z_156 {p : Prop} (h : p := by (with_reducible repeat (first | apply Kd.R_alloc | apply Kd.R_drewN | apply Kd.R_drew)); exact HO459.out) : p := h
theorem z_157 {p : Prop} (h : p := by repeat (first | exact (Kd.R_reads' HO_7.out).2.2 | (with_reducible refine Kd.C_alloc ?_ _) | (with_reducible refine Kd.C_drewN ?_ _) | (with_reducible refine Kd.C_drew ?_))) : p := h



def errW : Option Int → Value
 | none => .nilIface
 | some c => .iface 0 (.int .i64 c)
theorem errW_none : errW none = .nilIface := rfl
theorem errW_some (c : Int) : errW (some c) = .iface 0 (.int .i64 c) := rfl

theorem info3 : (Try.prog.info? 3).map (fun i => (i.zero, i.size, i.bytes)) = some (some (.int .i64 0), 1, 8) := z_0
theorem info5 : (Try.prog.info? 5).map (fun i => (i.zero, i.size, i.bytes)) = some (some (.int .u8 0), 1, 1) := z_0
theorem info9 : (Try.prog.info? 9).map (fun i => (i.zero, i.size, i.bytes)) = some (some (.string ⟨#[]⟩), 1, 16) := z_0
theorem info26 : (Try.prog.info? 26).map (fun i => (i.zero, i.size, i.bytes)) = some (some (.agg #[(.string ⟨#[]⟩), (.int .i64 0), (.int .i64 0), (.string ⟨#[]⟩), (.int .i64 0)]), 5, 56) := z_0
theorem info83 : (Try.prog.info? 83).map (fun i => (i.zero, i.size, i.bytes)) = some (some (.agg #[(.string ⟨#[]⟩), (.int .i64 0), (.int .i64 0), (.string ⟨#[]⟩), (.int .i64 0), (.int .i64 0)]), 6, 64) := z_0
-- the values' own types
/-! #### struct type 26 -/
structure S26 where
 f0 : ByteArray
 f1 : Int
 f2 : Int
 f3 : ByteArray
 f4 : Int
def z26 : S26 := ⟨(⟨#[]⟩ : ByteArray), (0 : Int), (0 : Int), (⟨#[]⟩ : ByteArray), (0 : Int)⟩
def k26 : Kd S26 := Kd.iso (Kd.pair Kd.string (Kd.pair (Kd.int .i64) (Kd.pair (Kd.int .i64) (Kd.pair Kd.string (Kd.int .i64))))) (fun x : S26 => (x.f0, x.f1, x.f2, x.f3, x.f4))
theorem k26_open {w : World} {x : S26} {cs : List Value} (h : k26.K w x cs) : cs = [.string x.f0, .int .i64 x.f1, .int .i64 x.f2, .string x.f3, .int .i64 x.f4] := by
 obtain ⟨_, _, rfl, rfl, ⟨_, _, rfl, rfl, ⟨_, _, rfl, rfl, ⟨_, _, rfl, rfl, rfl⟩⟩⟩⟩ := h
 exact rfl
theorem k26_openM {w : World} {base : Nat} {ok : Nat → Prop} {x : S26} {cs : List Value} (h : k26.M w base ok x cs) : cs = [.string x.f0, .int .i64 x.f1, .int .i64 x.f2, .string x.f3, .int .i64 x.f4] := by
 obtain ⟨_, _, rfl, rfl, ⟨_, _, rfl, rfl, ⟨_, _, rfl, rfl, ⟨_, _, rfl, rfl, rfl⟩⟩⟩⟩ := h
 exact rfl
theorem k26_mk (w : World) (x : S26)  : k26.K w x [.string x.f0, .int .i64 x.f1, .int .i64 x.f2, .string x.f3, .int .i64 x.f4] := ⟨[.string x.f0], [.int .i64 x.f1, .int .i64 x.f2, .string x.f3, .int .i64 x.f4], rfl, rfl, ⟨[.int .i64 x.f1], [.int .i64 x.f2, .string x.f3, .int .i64 x.f4], rfl, rfl, ⟨[.int .i64 x.f2], [.string x.f3, .int .i64 x.f4], rfl, rfl, ⟨[.string x.f3], [.int .i64 x.f4], rfl, rfl, rfl⟩⟩⟩⟩
theorem k26_mkM (w : World) (base : Nat) (ok : Nat → Prop) (x : S26)  : k26.M w base ok x [.string x.f0, .int .i64 x.f1, .int .i64 x.f2, .string x.f3, .int .i64 x.f4] := ⟨[.string x.f0], [.int .i64 x.f1, .int .i64 x.f2, .string x.f3, .int .i64 x.f4], rfl, rfl, ⟨[.int .i64 x.f1], [.int .i64 x.f2, .string x.f3, .int .i64 x.f4], rfl, rfl, ⟨[.int .i64 x.f2], [.string x.f3, .int .i64 x.f4], rfl, rfl, ⟨[.string x.f3], [.int .i64 x.f4], rfl, rfl, rfl⟩⟩⟩⟩
theorem k26_mkF (W : World) (ok : Nat → Prop) (x : S26) : Kd.FK k26 W ok x [.string x.f0, .int .i64 x.f1, .int .i64 x.f2, .string x.f3, .int .i64 x.f4] := fun W2 _ => k26_mk W2 x
def rd_T26 (xs : List S26) (i : Int) : S26 := xs.getD i.toNat z26
theorem at_T26 {w : World} {A : Option Addr} {n : Nat} {xs : List S26} (h : Kd.C k26 w A n xs) (i : Int) (h0 : 0 ≤ i) (h1 : i < n) : ∃ ad , A = some ad ∧ w.cell? (ad.add (i.toNat * 5)) = some (.string (rd_T26 xs i).f0) ∧ w.cell? ⟨(ad.add (i.toNat * 5)).block, (ad.add (i.toNat * 5)).off + 1, none⟩ = some (.int .i64 (rd_T26 xs i).f1) ∧ w.cell? ⟨(ad.add (i.toNat * 5)).block, (ad.add (i.toNat * 5)).off + 2, none⟩ = some (.int .i64 (rd_T26 xs i).f2) ∧ w.cell? ⟨(ad.add (i.toNat * 5)).block, (ad.add (i.toNat * 5)).off + 3, none⟩ = some (.string (rd_T26 xs i).f3) ∧ w.cell? ⟨(ad.add (i.toNat * 5)).block, (ad.add (i.toNat * 5)).off + 4, none⟩ = some (.int .i64 (rd_T26 xs i).f4) := by
 obtain ⟨ad, c, e, _, hK, hc0⟩ := Kd.C_get h z26 i h0 h1
 have hc : ∀ j u, c[j]? = some u → w.cell? (ad.add (i.toNat * 5 + j)) = some u := hc0
 obtain rfl := k26_open hK
 exact ⟨ad, e, hc 0 _ rfl, by rw [← add_field _ _ 1 (by omega)]; exact hc 1 _ rfl, by rw [← add_field _ _ 2 (by omega)]; exact hc 2 _ rfl, by rw [← add_field _ _ 3 (by omega)]; exact hc 3 _ rfl, by rw [← add_field _ _ 4 (by omega)]; exact hc 4 _ rfl⟩

/-! #### struct type 83 -/
structure S83 where
 f0 : S26
 f1 : Int
def z83 : S83 := ⟨z26, (0 : Int)⟩
def k83 : Kd S83 := Kd.iso (Kd.pair k26 (Kd.int .i64)) (fun x : S83 => (x.f0, x.f1))
theorem k83_open {w : World} {x : S83} {cs : List Value} (h : k83.K w x cs) : cs = [.string x.f0.f0, .int .i64 x.f0.f1, .int .i64 x.f0.f2, .string x.f0.f3, .int .i64 x.f0.f4, .int .i64 x.f1] := by
 obtain ⟨_, _, rfl, s0, rfl⟩ := h
 obtain rfl := k26_open s0
 exact rfl
theorem k83_openM {w : World} {base : Nat} {ok : Nat → Prop} {x : S83} {cs : List Value} (h : k83.M w base ok x cs) : cs = [.string x.f0.f0, .int .i64 x.f0.f1, .int .i64 x.f0.f2, .string x.f0.f3, .int .i64 x.f0.f4, .int .i64 x.f1] := by
 obtain ⟨_, _, rfl, s0, rfl⟩ := h
 obtain rfl := k26_openM s0
 exact rfl
theorem k83_mk (w : World) (x : S83)  : k83.K w x [.string x.f0.f0, .int .i64 x.f0.f1, .int .i64 x.f0.f2, .string x.f0.f3, .int .i64 x.f0.f4, .int .i64 x.f1] := ⟨[.string x.f0.f0, .int .i64 x.f0.f1, .int .i64 x.f0.f2, .string x.f0.f3, .int .i64 x.f0.f4], [.int .i64 x.f1], rfl, (k26_mk w x.f0 ), rfl⟩
theorem k83_mkM (w : World) (base : Nat) (ok : Nat → Prop) (x : S83)  : k83.M w base ok x [.string x.f0.f0, .int .i64 x.f0.f1, .int .i64 x.f0.f2, .string x.f0.f3, .int .i64 x.f0.f4, .int .i64 x.f1] := ⟨[.string x.f0.f0, .int .i64 x.f0.f1, .int .i64 x.f0.f2, .string x.f0.f3, .int .i64 x.f0.f4], [.int .i64 x.f1], rfl, (k26_mkM w base ok x.f0 ), rfl⟩
theorem k83_mkF (W : World) (ok : Nat → Prop) (x : S83) : Kd.FK k83 W ok x [.string x.f0.f0, .int .i64 x.f0.f1, .int .i64 x.f0.f2, .string x.f0.f3, .int .i64 x.f0.f4, .int .i64 x.f1] := fun W2 _ => k83_mk W2 x
def rd_T83 (xs : List S83) (i : Int) : S83 := xs.getD i.toNat z83
theorem at_T83 {w : World} {A : Option Addr} {n : Nat} {xs : List S83} (h : Kd.C k83 w A n xs) (i : Int) (h0 : 0 ≤ i) (h1 : i < n) : ∃ ad , A = some ad ∧ w.cell? (ad.add (i.toNat * 6)) = some (.string (rd_T83 xs i).f0.f0) ∧ w.cell? ⟨(ad.add (i.toNat * 6)).block, (ad.add (i.toNat * 6)).off + 1, none⟩ = some (.int .i64 (rd_T83 xs i).f0.f1) ∧ w.cell? ⟨(ad.add (i.toNat * 6)).block, (ad.add (i.toNat * 6)).off + 2, none⟩ = some (.int .i64 (rd_T83 xs i).f0.f2) ∧ w.cell? ⟨(ad.add (i.toNat * 6)).block, (ad.add (i.toNat * 6)).off + 3, none⟩ = some (.string (rd_T83 xs i).f0.f3) ∧ w.cell? ⟨(ad.add (i.toNat * 6)).block, (ad.add (i.toNat * 6)).off + 4, none⟩ = some (.int .i64 (rd_T83 xs i).f0.f4) ∧ w.cell? ⟨(ad.add (i.toNat * 6)).block, (ad.add (i.toNat * 6)).off + 5, none⟩ = some (.int .i64 (rd_T83 xs i).f1) := by
 obtain ⟨ad, c, e, _, hK, hc0⟩ := Kd.C_get h z83 i h0 h1
 have hc : ∀ j u, c[j]? = some u → w.cell? (ad.add (i.toNat * 6 + j)) = some u := hc0
 obtain rfl := k83_open hK
 exact ⟨ad, e, hc 0 _ rfl, by rw [← add_field _ _ 1 (by omega)]; exact hc 1 _ rfl, by rw [← add_field _ _ 2 (by omega)]; exact hc 2 _ rfl, by rw [← add_field _ _ 3 (by omega)]; exact hc 3 _ rfl, by rw [← add_field _ _ 4 (by omega)]; exact hc 4 _ rfl, by rw [← add_field _ _ 5 (by omega)]; exact hc 5 _ rfl⟩

end Go.Proofs.Ytmgnmgobibpjjaa.GFnKeptFind
