/- What the Go functions that FnMixed reaches come to, walked step by step; there is no condition beyond those each statement names. -/
import Derived.Test.YtenphmeikbjimaaProg
import Derived.Below
import Derived.Deep.Draws
import Derived.Deep.AppendLies
import Derived.Maps.AppendAt
import Derived.OwnWalk
import Derived.Laws.BytesArg
import Derived.Laws.MakeOwn
import Derived.Laws.OwnMore
import Derived.Deep.OwnRows
import Derived.Tactics
import Derived.Lib.ConvBytes
import Derived.Laws.Slices
import Derived.WalkKit
import Derived.KernelRfl
import Derived.RowKit3
import Derived.Deep.LoopGhost
import Derived.Deep.QuietTactic
import Derived.BigQuiet
import Derived.WideLaws
import Derived.Deep.DeepCutAuto
import Derived.Deep.CutBlock
import Derived.Deep.RegionHeld3
import Derived.Laws.Rows
import Derived.Lib.AppendStr
import Derived.ArgAppend
import Derived.Laws.IdiomCopy
import Derived.OrdersHeld
import Derived.Laws.BitsLemmas
import Derived.RowKit
import Derived.Test.YtenphmeikbjimaaVMixedWords
import Derived.Test.YtenphmeikbjimaaVMixedLast
import Derived.Test.YtenphmeikbjimaaVMixedTab
import Derived.Test.YtenphmeikbjimaaVMixedQPut
import Derived.Test.YtenphmeikbjimaaVMixedApart
import Derived.Test.YtenphmeikbjimaaVMixedArr
import Derived.Test.YtenphmeikbjimaaVMixedZeros
import Derived.Test.YtenphmeikbjimaaVMixedFoot
import Derived.Test.YtenphmeikbjimaaVMixedKept
import Derived.Test.YtenphmeikbjimaaVMixedShare
import Derived.Test.YtenphmeikbjimaaVMixedN
import Derived.Test.YtenphmeikbjimaaVMixedRepsOne
import Derived.Test.YtenphmeikbjimaaVMixedNEv
import Derived.Test.YtenphmeikbjimaaVMixedMore
import Derived.Test.YtenphmeikbjimaaVMixedClipK
namespace Go.Proofs.Ytenphmeikbjimaa.GFnMixed
open Go.RowKit Go.Proofs.YtenphmeikbjimaaVMixed.PrintWords Go.Proofs.YtenphmeikbjimaaVMixed.PrintLast Go.Proofs.YtenphmeikbjimaaVMixed.PrintMore
attribute [local go_sem] max2_int min2_int max_two min_two max_three min_three max_four min_four   -- for this text's walks alone
set_option linter.unusedVariables false
set_option linter.unusedSimpArgs false
-- Closing blocks of tactics that come again below: each is the default of a plain theorem's premise.
theorem z_0 {p : Prop} (h : p := by kernel_rfl) : p := h
theorem z_1 {p : Prop} (h : p := by simp) : p := h
theorem z_2 {p : Prop} (h : p := by omega) : p := h
theorem z_3 {p : Prop} (h : p := by first | (with_reducible assumption) | assumption) : p := h
theorem z_4 {p : Prop} (h : p := by first | (go_simp; done) | (go_simp; rfl)) : p := h
theorem z_5 {p : Prop} (h : p := by repeat (first | (with_reducible first | exact HB.out | apply below_alloc | apply pw_below_drewN | apply below_drew1) | exact HB.out)) : p := h
theorem z_6 {p : Prop} (h : p := by rw [hg]; exact (below_size (by repeat (first | (with_reducible first | exact HBW.out | apply below_alloc | apply pw_below_drewN | apply below_drew1) | exact HBW.out)))) : p := h
theorem z_7 {p : Prop} (h : p := by first | rfl | (simp; done) | (simp [*]; done)) : p := h
theorem z_8 {p : Prop} (h : p := by first | omega | exact Nat.le_refl _) : p := h
theorem z_9 {p : Prop} (h : p := by repeat (first | (with_reducible first | exact HI0.out | apply IsS45.alloc | apply IsS45.drewN | apply IsS45.drew | apply IsS45.set_1) | exact HI0.out)) : p := h
theorem z_10 {p : Prop} (h : p := by repeat (first | (with_reducible first | exact HK.out | apply KeepBut.set_ | apply keep_drewN | apply keep_drew | apply keep_alloc) | exact HK.out)) : p := h
theorem z_11 {p : Prop} (h : p := by repeat (first | (with_reducible first | exact HB.out | apply below_alloc | apply pw_below_drewN | apply below_drew1 | refine below_set ?_ (IsS45.ge HI0.out)) | exact HB.out)) : p := h
theorem z_12 {p : Prop} (h : p := by first | rfl | (simp [errW_none, errW_some] <;> rfl) | (simp [*, errW_none, errW_some] <;> rfl)) : p := h
theorem z_13 {p : Prop} (h : p := by (try simp only [List.map_toArray, List.map_cons, List.map_nil]); first | done | rfl | (simp only [List.length_drop, List.length_take]; rfl)) : p := h
theorem z_14 {p : Prop} (h : p := by (with_reducible repeat (first | apply Kd.R_alloc | apply Kd.R_drewN | apply Kd.R_drew)); exact HO_5.out) : p := h
theorem z_15 {p : Prop} (h : p := by decide) : p := h
theorem z_16 {p : Prop} (h : p := by exact (fun _ _ => trivial)) : p := h
theorem z_17 {p : Prop} (h : p := by exact (z_14)) : p := h
theorem z_18 {p : Prop} (h : p := by exact (keep_size (w := w) (g := g) (row := none) (z_10))) : p := h
theorem z_19 {p : Prop} (h : p := by have := HK1.out; omega) : p := h
theorem z_20 {p : Prop} (h : p := by repeat (first | (with_reducible first | exact HI124.out | apply IsS45.alloc | apply IsS45.drewN | apply IsS45.drew | apply IsS45.set_1) | exact HI124.out)) : p := h
theorem z_21 {p : Prop} (h : p := by repeat (first | (with_reducible first | exact HB.out | apply below_alloc | apply pw_below_drewN | apply below_drew1 | refine below_set ?_ (IsS45.ge HI124.out)) | exact HB.out)) : p := h
theorem z_22 {p : Prop} (h : p := by (with_reducible repeat (first | apply Kd.R_alloc | apply Kd.R_drewN | apply Kd.R_drew)); exact HO129.out) : p := h
theorem z_23 {p : Prop} (h : p := by repeat (first | exact Drawn0.refl _ | apply Drawn0.step)) : p := h
theorem z_24 {p : Prop} (h : p := by exact (z_5)) : p := h
theorem z_25 {p : Prop} (h : p := by (with_reducible repeat (first | apply Kd.R_alloc | apply Kd.R_drewN | apply Kd.R_drew)); exact HO_6.out) : p := h
theorem z_26 {p : Prop} (h : p := by exact (z_25)) : p := h
theorem z_27 {p : Prop} (h : p := by exact (below_size (z_5))) : p := h
theorem z_28 {p : Prop} (h : p := by unfold wrap64; omega) : p := h
theorem z_29 {p : Prop} (h : p := by repeat (first | exact HR2.out | (with_reducible refine Kd.C_alloc ?_ _) | (with_reducible refine Kd.C_drewN ?_ _) | (with_reducible refine Kd.C_drew ?_))) : p := h
theorem z_30 {p : Prop} (h : p := by first | exact Kd.R_nil _ _ _ _ _ | exact Kd.N_nil _ _ _ _ _ | exact Kd.V_nil _ _ _ _ _ | exact Kd.Q_nil _ _ _ _ _ | exact Kd.S_nil _ _ _ _ _) : p := h
theorem z_31 {p : Prop} (h : p := by (with_reducible repeat (first | apply Kd.R_alloc | apply Kd.R_drewN | apply Kd.R_drew)); exact HO167.out) : p := h
theorem z_32 {p : Prop} (h : p := by exact Kd.C_nil _ _) : p := h
theorem z_33 {p : Prop} (h : p := by exact Nat.le_refl _) : p := h
theorem z_34 {p : Prop} (h : p := by (with_reducible repeat (first | apply Kd.V_alloc | apply Kd.V_drewN | apply Kd.V_drew)); exact HO1.out) : p := h
theorem z_35 {p : Prop} (h : p := by (with_reducible repeat (first | apply Kd.V_alloc | apply Kd.V_drewN | apply Kd.V_drew)); exact HO_1.out) : p := h
theorem z_36 {p : Prop} (h : p := by (with_reducible repeat (first | apply Kd.V_alloc | apply Kd.V_drewN | apply Kd.V_drew)); exact Kd.V_mono HO_1.out (fun _ hk => ⟨⟨hk.1.1, hk.2⟩, hk.1.2⟩)) : p := h
theorem z_37 {p : Prop} (h : p := by have := HJ2.out; have := HK2.out; omega) : p := h
theorem z_38 {p : Prop} (h : p := by repeat (first | exact (Kd.V_reads' HO_1.out).2.2 | (with_reducible refine Kd.C_alloc ?_ _) | (with_reducible refine Kd.C_drewN ?_ _) | (with_reducible refine Kd.C_drew ?_))) : p := h
theorem z_39 {p : Prop} (h : p := by repeat (first | exact (Kd.C_below HR2.out HB.out) | (with_reducible refine Kd.C_alloc ?_ _) | (with_reducible refine Kd.C_drewN ?_ _) | (with_reducible refine Kd.C_drew ?_))) : p := h
theorem z_40 {p : Prop} (h : p := by (with_reducible repeat (first | apply Kd.R_alloc | apply Kd.R_drewN | apply Kd.R_drew)); exact HO223.out) : p := h
theorem z_41 {p : Prop} (h : p := by (with_reducible repeat (first | apply Kd.R_alloc | apply Kd.R_drewN | apply Kd.R_drew)); exact HO226.out) : p := h
theorem z_42 {p : Prop} (h : p := by (with_reducible repeat (first | apply Kd.R_alloc | apply Kd.R_drewN | apply Kd.R_drew)); exact HO235.out) : p := h
theorem z_43 {p : Prop} (h : p := by (with_reducible repeat (first | apply Kd.R_alloc | apply Kd.R_drewN | apply Kd.R_drew)); exact HO238.out) : p := h
theorem z_44 {p : Prop} (h : p := by (with_reducible repeat (first | apply Kd.R_alloc | apply Kd.R_drewN | apply Kd.R_drew)); exact HO244.out) : p := h
theorem z_45 {p : Prop} (h : p := by first | omega | exact of_decide_eq_true (z_3)) : p := h
theorem z_46 {p : Prop} (h : p := by (with_reducible repeat (first | apply Kd.R_alloc | apply Kd.R_drewN | apply Kd.R_drew)); exact HO249.out) : p := h
theorem z_47 {p : Prop} (h : p := by exact (by (with_reducible repeat (first | apply Kd.R_alloc | apply Kd.R_drewN | apply Kd.R_drew)); exact Kd.R_mono HO_5.out (fun _ hk => hk.2))) : p := h
theorem z_48 {p : Prop} (h : p := by (with_reducible repeat (first | apply Kd.R_alloc | apply Kd.R_drewN | apply Kd.R_drew)); exact HO256.out) : p := h
theorem z_49 {p : Prop} (h : p := by injection e271) : p := h
theorem z_50 {p : Prop} (h : p := by repeat (first | exact HR272.out | (with_reducible refine Kd.C_alloc ?_ _) | (with_reducible refine Kd.C_drewN ?_ _) | (with_reducible refine Kd.C_drew ?_))) : p := h
theorem z_51 {p : Prop} (h : p := by repeat (first | exact (Kd.R_reads' HO275.out).2.2 | (with_reducible refine Kd.C_alloc ?_ _) | (with_reducible refine Kd.C_drewN ?_ _) | (with_reducible refine Kd.C_drew ?_))) : p := h
theorem z_52 {p : Prop} (h : p := by exact (Kd.R_reads' HO275.out).2.1) : p := h
theorem z_53 {p : Prop} (h : p := by (with_reducible repeat (first | apply Kd.R_alloc | apply Kd.R_drewN | apply Kd.R_drew)); exact HO275.out) : p := h
theorem z_54 {p : Prop} (h : p := by (with_reducible repeat (first | apply Kd.R_alloc | apply Kd.R_drewN | apply Kd.R_drew)); exact HO282.out) : p := h
theorem z_55 {p : Prop} (h : p := by repeat (first | exact (Kd.R_reads' HO282.out).2.2 | (with_reducible refine Kd.C_alloc ?_ _) | (with_reducible refine Kd.C_drewN ?_ _) | (with_reducible refine Kd.C_drew ?_))) : p := h
theorem z_56 {p : Prop} (h : p := by exact (fun k_ hk => ⟨(Nat.le_trans (below_size (z_5)) hk), Kd.fresh' (Kd.R_lt (z_54)) k_ hk⟩)) : p := h
theorem z_57 {p : Prop} (h : p := by (with_reducible repeat (first | apply Kd.R_alloc | apply Kd.R_drewN | apply Kd.R_drew)); exact Kd.R_mono HO282.out (fun _ hk => ⟨hk.1.1, hk.2⟩)) : p := h
theorem z_58 {p : Prop} (h : p := by (with_reducible repeat (first | apply Kd.V_alloc | apply Kd.V_drewN | apply Kd.V_drew)); exact Kd.V_mono HO293.out (fun _ hk => ⟨⟨hk.1.1, hk.2⟩, hk.1.2⟩)) : p := h
theorem z_59 {p : Prop} (h : p := by (with_reducible repeat (first | apply Kd.R_alloc | apply Kd.R_drewN | apply Kd.R_drew)); exact HO288.out) : p := h
theorem z_60 {p : Prop} (h : p := by first | rfl | (simp [errW_none, errW_some] <;> rfl) | (simp only [← hji5, ← hji7]; first | rfl | (simp [errW_none, errW_some] <;> rfl)) | (simp [*, errW_none, errW_some] <;> rfl)) : p := h
theorem z_61 {p : Prop} (h : p := by (with_reducible repeat (first | apply Kd.R_alloc | apply Kd.R_drewN | apply Kd.R_drew)); exact HO306.out) : p := h



def errW : Option Int → Value
 | none => .nilIface
 | some c => .iface 0 (.int .i64 c)
theorem errW_none : errW none = .nilIface := rfl
theorem errW_some (c : Int) : errW (some c) = .iface 0 (.int .i64 c) := rfl

theorem info5 : (Try.prog.info? 5).map (fun i => (i.zero, i.size, i.bytes)) = some (some (.int .u8 0), 1, 1) := z_0
theorem info22 : (Try.prog.info? 22).map (fun i => (i.zero, i.size, i.bytes)) = some (some (.slice none 0 0), 1, 24) := z_0
-- the values' own types
def rd_L1 (xs : List (List Int)) (i : Int) : (List Int) := xs.getD i.toNat ([] : List Int)
theorem at_L1 {w : World} {A : Option Addr} {n : Nat} {xs : List (List Int)} (h : Kd.C (Kd.slice 5 (Kd.int .u8)) w A n xs) (i : Int) (h0 : 0 ≤ i) (h1 : i < n) : ∃ ad A0 c0, A = some ad ∧ w.cell? (ad.add i.toNat) = some (.slice A0 (rd_L1 xs i).length c0) ∧ (rd_L1 xs i).length ≤ c0 ∧ (Kd.int .u8).C w A0 (rd_L1 xs i).length (rd_L1 xs i) := by
 obtain ⟨ad, c, e, _, hK, hc0⟩ := Kd.C_get h ([] : List Int) i h0 h1
 have hc : ∀ j u, c[j]? = some u → w.cell? (ad.add (i.toNat * 1 + j)) = some u := hc0
 obtain ⟨A0, c0, rfl, l0, g0⟩ := hK
 exact ⟨ad, A0, c0, e, by have hq := hc 0 _ rfl; rwa [Nat.mul_one, Nat.add_zero] at hq, l0, g0⟩

end Go.Proofs.Ytenphmeikbjimaa.GFnMixed
