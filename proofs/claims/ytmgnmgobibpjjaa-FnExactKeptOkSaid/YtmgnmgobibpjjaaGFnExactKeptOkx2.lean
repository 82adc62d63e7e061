/- What the Go functions that FnExactKeptOk reaches come to, walked step by step; there is no condition beyond those each statement names. -/
import Derived.Test.YtmgnmgobibpjjaaGFnExactKeptOkx0
import Derived.Test.YtmgnmgobibpjjaaGFnExactKeptOkx1
namespace Go.Proofs.Ytmgnmgobibpjjaa.GFnExactKeptOk
open Go.RowKit Go.Proofs.YtmgnmgobibpjjaaU.PrintWords Go.Proofs.YtmgnmgobibpjjaaU.PrintLast Go.Proofs.YtmgnmgobibpjjaaU.PrintMore
attribute [local go_sem] max2_int min2_int max_two min_two max_three min_three max_four min_four   -- for this text's walks alone
set_option linter.unusedVariables false
set_option linter.unusedSimpArgs false

/-! ### spec_KeptOk: function 34 -/
mutual
def spec_KeptOk.l0 : Nat → List (S83) → Int → Option (Bool)
  | 0, _, _ => none
  | k + 1, x0, x3 => if x3 < (x0.length : Int) then (if 0 ≤ x3 then ((spec_NameOk.f k ((rd_T83 x0 x3).f0.f0) ((rd_T83 x0 x3).f0.f1) ((rd_T83 x0 x3).f0.f2) ((rd_T83 x0 x3).f0.f3) ((rd_T83 x0 x3).f0.f4)).bind fun t113 => (if t113 = true then ((spec_l1In.f ((rd_T83 x0 x3).f1) 0 1000000).bind fun t115 => (spec_KeptOk.j1 k x0 x3 (!t115))) else (spec_KeptOk.j1 k x0 x3 true))) else (none)) else (some (decide ((x0.length : Int) ≤ 5)))
def spec_KeptOk.j1 : Nat → List (S83) → Int → Bool → Option (Bool)
  | 0, _, _, _ => none
  | k + 1, x0, x3, x26 => if x26 = true then (some false) else (spec_KeptOk.l1 k x0 x3 0)
def spec_KeptOk.l1 : Nat → List (S83) → Int → Int → Option (Bool)
  | 0, _, _, _ => none
  | k + 1, x0, x3, x4 => if x4 < x3 then (if 0 ≤ x4 then (if x4 < (x0.length : Int) then (if 0 ≤ x3 then (if x3 < (x0.length : Int) then (if ((rd_T83 x0 x4).f0.f0).toList = ((rd_T83 x0 x3).f0.f0).toList then (some false) else (spec_KeptOk.l1 k x0 x3 (wrap64 (x4 + 1)))) else (none)) else (none)) else (none)) else (none)) else (spec_KeptOk.l0 k x0 (wrap64 (x3 + 1)))
end
def spec_KeptOk.f (k : Nat) (l0 : List (S83)) : Option (Bool) := spec_KeptOk.l0 k l0 0
theorem spec_KeptOk.mono_l : ∀ k, (∀ y0 y1, LeO (spec_KeptOk.l0 k y0 y1) (spec_KeptOk.l0 (k + 1) y0 y1)) ∧ (∀ y0 y1 y2, LeO (spec_KeptOk.j1 k y0 y1 y2) (spec_KeptOk.j1 (k + 1) y0 y1 y2)) ∧ (∀ y0 y1 y2, LeO (spec_KeptOk.l1 k y0 y1 y2) (spec_KeptOk.l1 (k + 1) y0 y1 y2))
  | 0 => ⟨fun _ _ r h => by simp [spec_KeptOk.l0] at h, fun _ _ _ r h => by simp [spec_KeptOk.j1] at h, fun _ _ _ r h => by simp [spec_KeptOk.l1] at h⟩
  | k + 1 => by
    obtain ⟨ih0, ih1, ih2⟩ := spec_KeptOk.mono_l k
    refine ⟨?_, ?_, ?_⟩
    · intro y0 y1
      unfold spec_KeptOk.l0
      repeat' first
      | (with_reducible exact ih0 _ _)
      | (with_reducible exact ih1 _ _ _)
      | (with_reducible exact ih2 _ _ _)
      | (with_reducible exact spec_NameOk.mono _ _ _ _ _ _)
      | (with_reducible exact LeO.refl _)
      | (with_reducible exact LeO.none _)
      | (with_reducible refine LeO.ite ?_ ?_)
      | (with_reducible refine LeO.bind ?_ (fun _ => ?_))
      | exact ih0 _ _
      | exact ih1 _ _ _
      | exact ih2 _ _ _
      | exact spec_NameOk.mono _ _ _ _ _ _
      | exact LeO.none _
      | refine LeO.ite ?_ ?_
      | refine LeO.bind ?_ (fun _ => ?_)
    · intro y0 y1 y2
      unfold spec_KeptOk.j1
      repeat' first
      | (with_reducible exact ih0 _ _)
      | (with_reducible exact ih1 _ _ _)
      | (with_reducible exact ih2 _ _ _)
      | (with_reducible exact spec_NameOk.mono _ _ _ _ _ _)
      | (with_reducible exact LeO.refl _)
      | (with_reducible exact LeO.none _)
      | (with_reducible refine LeO.ite ?_ ?_)
      | (with_reducible refine LeO.bind ?_ (fun _ => ?_))
      | exact ih0 _ _
      | exact ih1 _ _ _
      | exact ih2 _ _ _
      | exact spec_NameOk.mono _ _ _ _ _ _
      | exact LeO.none _
      | refine LeO.ite ?_ ?_
      | refine LeO.bind ?_ (fun _ => ?_)
    · intro y0 y1 y2
      unfold spec_KeptOk.l1
      repeat' first
      | (with_reducible exact ih0 _ _)
      | (with_reducible exact ih1 _ _ _)
      | (with_reducible exact ih2 _ _ _)
      | (with_reducible exact spec_NameOk.mono _ _ _ _ _ _)
      | (with_reducible exact LeO.refl _)
      | (with_reducible exact LeO.none _)
      | (with_reducible refine LeO.ite ?_ ?_)
      | (with_reducible refine LeO.bind ?_ (fun _ => ?_))
      | exact ih0 _ _
      | exact ih1 _ _ _
      | exact ih2 _ _ _
      | exact spec_NameOk.mono _ _ _ _ _ _
      | exact LeO.none _
      | refine LeO.ite ?_ ?_
      | refine LeO.bind ?_ (fun _ => ?_)
theorem spec_KeptOk.mono : ∀ a0 k, LeO (spec_KeptOk.f k a0) (spec_KeptOk.f (k + 1) a0) := by
  intro a0 k
  obtain ⟨ih0, ih1, ih2⟩ := spec_KeptOk.mono_l k
  unfold spec_KeptOk.f
  repeat' first
      | (with_reducible exact ih0 _ _)
      | (with_reducible exact ih1 _ _ _)
      | (with_reducible exact ih2 _ _ _)
      | (with_reducible exact spec_NameOk.mono _ _ _ _ _ _)
      | (with_reducible exact LeO.refl _)
      | (with_reducible exact LeO.none _)
      | (with_reducible refine LeO.ite ?_ ?_)
      | (with_reducible refine LeO.bind ?_ (fun _ => ?_))
      | exact ih0 _ _
      | exact ih1 _ _ _
      | exact ih2 _ _ _
      | exact spec_NameOk.mono _ _ _ _ _ _
      | exact LeO.none _
      | refine LeO.ite ?_ ?_
      | refine LeO.bind ?_ (fun _ => ?_)
set_option maxHeartbeats 8000000 in
set_option maxRecDepth 100000 in
theorem spec_KeptOk.calls (k : Nat) (A0 : Option Addr) (c0 : Nat) (l0 : List (S83)) (r : Bool) (w : World) (hr0 : Kd.C k83 w A0 l0.length l0) (hc0 : l0.length ≤ c0) (h : spec_KeptOk.f k l0 = some r) :
    Calls Try.prog 34 #[.slice A0 l0.length c0] w fun e w' => e = .returned (.bool r) ∧ Below w.heap.size w w' := by
  have hu26 := Try.underlying26
  have HR0 := Aside0.mk hr0
  have HC0 := Aside0.mk hc0
  clear hr0 hc0
  have HB := Aside0.mk (Below.refl w.heap.size w)
  have H : (spec_KeptOk.l0 k l0 0) = some r := h
  clear h
  have H' := Aside0.mk H
  clear H
  go_enter Try.func34, Try.ntmps34
  go_wp2
  repeat (go_quiet (fail); try go_wp2)
  go_loopg [3] k (fun kq v3 w' => ∃ (x3_1 : Int), v3 = .int .i64 x3_1 ∧ Aside0 (spec_KeptOk.l0 kq l0 x3_1 = some r) ∧ Aside0 (kq ≤ k) ∧ Aside0 (Below w.heap.size w w'))
  case atStart => exact ⟨(0), (z_9), H', ⟨Nat.le_refl _⟩, ⟨z_2⟩⟩
  case round =>
    clear H'
    obtain ⟨x3_1, rfl, HA, HK1, HB⟩ := hrel
    cases gk with
    | zero => exact absurd HA.out (by simp [spec_KeptOk.l0])
    | succ k1 =>
      have H := HA.out
      clear HA
      simp only [spec_KeptOk.l0] at H
      by_cases c2 : x3_1 < (l0.length : Int)
      · rw [if_pos c2] at H
        have c2b0 : decide (x3_1 < (l0.length : Int)) = true := decide_eq_true c2
        clear c2
        have HC3 := Aside0.mk H
        clear H
        go_upto_region 4 with (fail)
        repeat (go_quiet (fail); go_upto_region 4 with (fail))
        go_cut [26] (fun v26 wc => ∃ (kq : Nat) (x26_2 : Bool), v26 = .bool x26_2 ∧ Aside0 (spec_KeptOk.j1 kq l0 x3_1 x26_2 = some r) ∧ Aside0 (kq ≤ k1) ∧ Aside0 (Below w.heap.size w wc))
        case first =>
          have H := HC3.out
          clear HC3
          by_cases c4 : 0 ≤ x3_1
          · rw [if_pos c4] at H
            have c4b0 : decide (0 ≤ x3_1) = true := decide_eq_true c4
            clear c4
            (first | rw [c4b0] | (simp only [i64_w, i32_w]; rw [c4b0]) | skip)
            replace H := Option.bind_eq_some_iff.mp H
            obtain ⟨t113, A50, H⟩ := H
            have A5 := Aside0.mk A50
            clear A50
            by_cases c6 : t113 = true
            · subst c6
              rw [if_pos rfl] at H
              replace H := Option.bind_eq_some_iff.mp H
              obtain ⟨t115, A70, H⟩ := H
              have A7 := Aside0.mk A70
              clear A70
              have H' := Aside0.mk H
              clear H
              have p112 : 0 ≤ (x3_1 : Int) := of_decide_eq_true (z_10)
              have q112 : x3_1 < (l0.length : Int) := of_decide_eq_true (z_10)
              obtain ⟨ad112, e112, hx112_0, hx112_1, hx112_2, hx112_3, hx112_4, hx112_5⟩ := at_T83 HR0.out x3_1 p112 q112
              cases e112
              replace hx112_0 := (HB.out.cell (World.block_lt_of_cell? w _ hx112_0)).trans hx112_0
              replace hx112_1 := (HB.out.cell (World.block_lt_of_cell? w _ hx112_1)).trans hx112_1
              replace hx112_2 := (HB.out.cell (World.block_lt_of_cell? w _ hx112_2)).trans hx112_2
              replace hx112_3 := (HB.out.cell (World.block_lt_of_cell? w _ hx112_3)).trans hx112_3
              replace hx112_4 := (HB.out.cell (World.block_lt_of_cell? w _ hx112_4)).trans hx112_4
              replace hx112_5 := (HB.out.cell (World.block_lt_of_cell? w _ hx112_5)).trans hx112_5
              replace p112 := eq_true p112
              replace q112 := eq_true q112
              go_wp2_with (first | (go_at_call 19; (with_reducible refine (spec_NameOk.calls k1 ((rd_T83 l0 x3_1).f0.f0) ((rd_T83 l0 x3_1).f0.f1) ((rd_T83 l0 x3_1).f0.f2) ((rd_T83 l0 x3_1).f0.f3) ((rd_T83 l0 x3_1).f0.f4) true _ A5.out).mono ?_); rintro e w8 ⟨rfl, hb⟩; have n0_ := Aside0.mk (below_step (z_2) hb); clear HB; have HB := n0_; clear n0_; (try clear hb); (try clear hb2); (try clear hk); (try clear hi); have p114 : 0 ≤ (x3_1 : Int) := of_decide_eq_true (z_10); have q114 : x3_1 < (l0.length : Int) := of_decide_eq_true (z_10); obtain ⟨ad114, e114, hx114_0, hx114_1, hx114_2, hx114_3, hx114_4, hx114_5⟩ := at_T83 HR0.out x3_1 p114 q114; obtain rfl : ad112 = ad114 := (by injection e114); replace hx114_0 := (HB.out.cell (World.block_lt_of_cell? w _ hx114_0)).trans hx114_0; replace hx114_1 := (HB.out.cell (World.block_lt_of_cell? w _ hx114_1)).trans hx114_1; replace hx114_2 := (HB.out.cell (World.block_lt_of_cell? w _ hx114_2)).trans hx114_2; replace hx114_3 := (HB.out.cell (World.block_lt_of_cell? w _ hx114_3)).trans hx114_3; replace hx114_4 := (HB.out.cell (World.block_lt_of_cell? w _ hx114_4)).trans hx114_4; replace hx114_5 := (HB.out.cell (World.block_lt_of_cell? w _ hx114_5)).trans hx114_5; replace p114 := eq_true p114; replace q114 := eq_true q114) | (go_at_call 55; (with_reducible refine (spec_l1In.calls ((rd_T83 l0 x3_1).f1) 0 1000000 t115 _ A7.out).mono ?_); rintro e w' ⟨rfl, ⟨nd, rfl⟩⟩; (try first | exact ⟨rfl, _, World.drewN_drewN _ _ _⟩ | exact ⟨rfl, _, Eq.trans (World.drewN_drewN _ _ _) (congrArg (World.drewN _) (Nat.add_assoc _ _ _))⟩)))
              repeat (go_quiet (first | (go_at_call 19; (with_reducible refine (spec_NameOk.calls k1 ((rd_T83 l0 x3_1).f0.f0) ((rd_T83 l0 x3_1).f0.f1) ((rd_T83 l0 x3_1).f0.f2) ((rd_T83 l0 x3_1).f0.f3) ((rd_T83 l0 x3_1).f0.f4) true _ A5.out).mono ?_); rintro e w8 ⟨rfl, hb⟩; have n0_ := Aside0.mk (below_step (z_2) hb); clear HB; have HB := n0_; clear n0_; (try clear hb); (try clear hb2); (try clear hk); (try clear hi); have p114 : 0 ≤ (x3_1 : Int) := of_decide_eq_true (z_10); have q114 : x3_1 < (l0.length : Int) := of_decide_eq_true (z_10); obtain ⟨ad114, e114, hx114_0, hx114_1, hx114_2, hx114_3, hx114_4, hx114_5⟩ := at_T83 HR0.out x3_1 p114 q114; obtain rfl : ad112 = ad114 := (by injection e114); replace hx114_0 := (HB.out.cell (World.block_lt_of_cell? w _ hx114_0)).trans hx114_0; replace hx114_1 := (HB.out.cell (World.block_lt_of_cell? w _ hx114_1)).trans hx114_1; replace hx114_2 := (HB.out.cell (World.block_lt_of_cell? w _ hx114_2)).trans hx114_2; replace hx114_3 := (HB.out.cell (World.block_lt_of_cell? w _ hx114_3)).trans hx114_3; replace hx114_4 := (HB.out.cell (World.block_lt_of_cell? w _ hx114_4)).trans hx114_4; replace hx114_5 := (HB.out.cell (World.block_lt_of_cell? w _ hx114_5)).trans hx114_5; replace p114 := eq_true p114; replace q114 := eq_true q114) | (go_at_call 55; (with_reducible refine (spec_l1In.calls ((rd_T83 l0 x3_1).f1) 0 1000000 t115 _ A7.out).mono ?_); rintro e w' ⟨rfl, ⟨nd, rfl⟩⟩; (try first | exact ⟨rfl, _, World.drewN_drewN _ _ _⟩ | exact ⟨rfl, _, Eq.trans (World.drewN_drewN _ _ _) (congrArg (World.drewN _) (Nat.add_assoc _ _ _))⟩))); try go_wp2_with (first | (go_at_call 19; (with_reducible refine (spec_NameOk.calls k1 ((rd_T83 l0 x3_1).f0.f0) ((rd_T83 l0 x3_1).f0.f1) ((rd_T83 l0 x3_1).f0.f2) ((rd_T83 l0 x3_1).f0.f3) ((rd_T83 l0 x3_1).f0.f4) true _ A5.out).mono ?_); rintro e w8 ⟨rfl, hb⟩; have n0_ := Aside0.mk (below_step (z_2) hb); clear HB; have HB := n0_; clear n0_; (try clear hb); (try clear hb2); (try clear hk); (try clear hi); have p114 : 0 ≤ (x3_1 : Int) := of_decide_eq_true (z_10); have q114 : x3_1 < (l0.length : Int) := of_decide_eq_true (z_10); obtain ⟨ad114, e114, hx114_0, hx114_1, hx114_2, hx114_3, hx114_4, hx114_5⟩ := at_T83 HR0.out x3_1 p114 q114; obtain rfl : ad112 = ad114 := (by injection e114); replace hx114_0 := (HB.out.cell (World.block_lt_of_cell? w _ hx114_0)).trans hx114_0; replace hx114_1 := (HB.out.cell (World.block_lt_of_cell? w _ hx114_1)).trans hx114_1; replace hx114_2 := (HB.out.cell (World.block_lt_of_cell? w _ hx114_2)).trans hx114_2; replace hx114_3 := (HB.out.cell (World.block_lt_of_cell? w _ hx114_3)).trans hx114_3; replace hx114_4 := (HB.out.cell (World.block_lt_of_cell? w _ hx114_4)).trans hx114_4; replace hx114_5 := (HB.out.cell (World.block_lt_of_cell? w _ hx114_5)).trans hx114_5; replace p114 := eq_true p114; replace q114 := eq_true q114) | (go_at_call 55; (with_reducible refine (spec_l1In.calls ((rd_T83 l0 x3_1).f1) 0 1000000 t115 _ A7.out).mono ?_); rintro e w' ⟨rfl, ⟨nd, rfl⟩⟩; (try first | exact ⟨rfl, _, World.drewN_drewN _ _ _⟩ | exact ⟨rfl, _, Eq.trans (World.drewN_drewN _ _ _) (congrArg (World.drewN _) (Nat.add_assoc _ _ _))⟩))))
              go_meet
              case rel => exact ⟨_, (!t115), (z_9), H', ⟨by have := HK1.out; first | omega | exact Nat.le_refl _⟩, ⟨z_2⟩⟩
            · replace c6 := Bool.eq_false_iff.mpr c6
              subst c6
              rw [if_neg (show ¬ (false = true) by decide)] at H
              have H' := Aside0.mk H
              clear H
              have p112 : 0 ≤ (x3_1 : Int) := of_decide_eq_true (z_10)
              have q112 : x3_1 < (l0.length : Int) := of_decide_eq_true (z_10)
              obtain ⟨ad112, e112, hx112_0, hx112_1, hx112_2, hx112_3, hx112_4, hx112_5⟩ := at_T83 HR0.out x3_1 p112 q112
              cases e112
              replace hx112_0 := (HB.out.cell (World.block_lt_of_cell? w _ hx112_0)).trans hx112_0
              replace hx112_1 := (HB.out.cell (World.block_lt_of_cell? w _ hx112_1)).trans hx112_1
              replace hx112_2 := (HB.out.cell (World.block_lt_of_cell? w _ hx112_2)).trans hx112_2
              replace hx112_3 := (HB.out.cell (World.block_lt_of_cell? w _ hx112_3)).trans hx112_3
              replace hx112_4 := (HB.out.cell (World.block_lt_of_cell? w _ hx112_4)).trans hx112_4
              replace hx112_5 := (HB.out.cell (World.block_lt_of_cell? w _ hx112_5)).trans hx112_5
              replace p112 := eq_true p112
              replace q112 := eq_true q112
              go_wp2_with (first | (go_at_call 19; (with_reducible refine (spec_NameOk.calls k1 ((rd_T83 l0 x3_1).f0.f0) ((rd_T83 l0 x3_1).f0.f1) ((rd_T83 l0 x3_1).f0.f2) ((rd_T83 l0 x3_1).f0.f3) ((rd_T83 l0 x3_1).f0.f4) false _ A5.out).mono ?_); rintro e w9 ⟨rfl, hb⟩; have n0_ := Aside0.mk (below_step (z_2) hb); clear HB; have HB := n0_; clear n0_; (try clear hb); (try clear hb2); (try clear hk); (try clear hi)))
              repeat (go_quiet (first | (go_at_call 19; (with_reducible refine (spec_NameOk.calls k1 ((rd_T83 l0 x3_1).f0.f0) ((rd_T83 l0 x3_1).f0.f1) ((rd_T83 l0 x3_1).f0.f2) ((rd_T83 l0 x3_1).f0.f3) ((rd_T83 l0 x3_1).f0.f4) false _ A5.out).mono ?_); rintro e w9 ⟨rfl, hb⟩; have n0_ := Aside0.mk (below_step (z_2) hb); clear HB; have HB := n0_; clear n0_; (try clear hb); (try clear hb2); (try clear hk); (try clear hi))); try go_wp2_with (first | (go_at_call 19; (with_reducible refine (spec_NameOk.calls k1 ((rd_T83 l0 x3_1).f0.f0) ((rd_T83 l0 x3_1).f0.f1) ((rd_T83 l0 x3_1).f0.f2) ((rd_T83 l0 x3_1).f0.f3) ((rd_T83 l0 x3_1).f0.f4) false _ A5.out).mono ?_); rintro e w9 ⟨rfl, hb⟩; have n0_ := Aside0.mk (below_step (z_2) hb); clear HB; have HB := n0_; clear n0_; (try clear hb); (try clear hb2); (try clear hk); (try clear hi))))
              go_meet
              case rel => exact ⟨_, (true), (z_9), H', ⟨by have := HK1.out; first | omega | exact Nat.le_refl _⟩, ⟨z_2⟩⟩
          · rw [if_neg c4] at H
            exact absurd H (by simp)
        case rest =>
          clear HC3
          try clear p1
          try clear q1
          try clear hx1
          try clear c2
          try clear c2b0
          try clear p2
          try clear c3
          try clear c4
          try clear c4b0
          try clear c6
          try clear hx112_0
          try clear hx112_1
          try clear hx112_2
          try clear hx112_3
          try clear hx112_4
          try clear hx112_5
          try clear hx114_0
          try clear hx114_1
          try clear hx114_2
          try clear hx114_3
          try clear hx114_4
          try clear hx114_5
          try clear p112
          try clear p114
          try clear q112
          try clear q114
          obtain ⟨kq, x26_2, rfl, HA, HJ2, HB⟩ := hcut
          cases kq with
          | zero => exact absurd HA.out (by simp [spec_KeptOk.j1])
          | succ kj2 =>
            have H := HA.out
            clear HA
            simp only [spec_KeptOk.j1] at H
            by_cases c10 : x26_2 = true
            · subst c10
              rw [if_pos rfl] at H
              obtain rfl := Option.some.inj H
              go_wp2
              repeat (go_quiet (fail); try go_wp2)
              go_ret
              exact ⟨z_4, z_2⟩
            · replace c10 := Bool.eq_false_iff.mpr c10
              subst c10
              rw [if_neg (show ¬ (false = true) by decide)] at H
              have H' := Aside0.mk H
              clear H
              go_wp2
              repeat (go_quiet (fail); try go_wp2)
              go_loopg [4] kj2 (fun kq v4 w' => ∃ (x4_3 : Int), v4 = .int .i64 x4_3 ∧ Aside0 (spec_KeptOk.l1 kq l0 x3_1 x4_3 = some r) ∧ Aside0 (kq ≤ kj2) ∧ Aside0 (Below w.heap.size w w'))
              case atStart => exact ⟨(0), (z_9), H', ⟨Nat.le_refl _⟩, ⟨z_2⟩⟩
              case round =>
                clear H'
                try clear c1
                try clear p1
                try clear q1
                try clear hx1
                try clear c2
                try clear c2b0
                try clear p2
                try clear c3
                try clear c4
                try clear c4b0
                try clear c6
                try clear c10
                try clear hx112_0
                try clear hx112_1
                try clear hx112_2
                try clear hx112_3
                try clear hx112_4
                try clear hx112_5
                try clear hx114_0
                try clear hx114_1
                try clear hx114_2
                try clear hx114_3
                try clear hx114_4
                try clear hx114_5
                try clear p1
                try clear p112
                try clear p114
                try clear p2
                try clear q1
                try clear q112
                try clear q114
                obtain ⟨x4_3, rfl, HA, HK3, HB⟩ := hrel
                cases gk with
                | zero => exact absurd HA.out (by simp [spec_KeptOk.l1])
                | succ k3 =>
                  have H := HA.out
                  clear HA
                  simp only [spec_KeptOk.l1] at H
                  by_cases c11 : x4_3 < x3_1
                  · rw [if_pos c11] at H
                    have c11b0 : decide (x4_3 < x3_1) = true := decide_eq_true c11
                    clear c11
                    by_cases c12 : 0 ≤ x4_3
                    · rw [if_pos c12] at H
                      have c12b0 : decide (0 ≤ x4_3) = true := decide_eq_true c12
                      clear c12
                      by_cases c13 : x4_3 < (l0.length : Int)
                      · rw [if_pos c13] at H
                        have c13b0 : decide (x4_3 < (l0.length : Int)) = true := decide_eq_true c13
                        clear c13
                        by_cases c14 : 0 ≤ x3_1
                        · rw [if_pos c14] at H
                          have c14b0 : decide (0 ≤ x3_1) = true := decide_eq_true c14
                          clear c14
                          by_cases c15 : x3_1 < (l0.length : Int)
                          · rw [if_pos c15] at H
                            have c15b0 : decide (x3_1 < (l0.length : Int)) = true := decide_eq_true c15
                            clear c15
                            by_cases c16 : ((rd_T83 l0 x4_3).f0.f0).toList = ((rd_T83 l0 x3_1).f0.f0).toList
                            · rw [if_pos c16] at H
                              have c16b0 : (((rd_T83 l0 x4_3).f0.f0).toList == ((rd_T83 l0 x3_1).f0.f0).toList) = true := beq_iff_eq.mpr c16
                              have c16b1 : (((rd_T83 l0 x4_3).f0.f0).toList != ((rd_T83 l0 x3_1).f0.f0).toList) = false := bne_eq_false_iff_eq.mpr c16
                              clear c16
                              obtain rfl := Option.some.inj H
                              have p116 : 0 ≤ (x4_3 : Int) := of_decide_eq_true (z_10)
                              have q116 : x4_3 < (l0.length : Int) := of_decide_eq_true (z_10)
                              obtain ⟨ad116, e116, hx116_0, hx116_1, hx116_2, hx116_3, hx116_4, hx116_5⟩ := at_T83 HR0.out x4_3 p116 q116
                              cases e116
                              replace hx116_0 := (HB.out.cell (World.block_lt_of_cell? w _ hx116_0)).trans hx116_0
                              replace hx116_1 := (HB.out.cell (World.block_lt_of_cell? w _ hx116_1)).trans hx116_1
                              replace hx116_2 := (HB.out.cell (World.block_lt_of_cell? w _ hx116_2)).trans hx116_2
                              replace hx116_3 := (HB.out.cell (World.block_lt_of_cell? w _ hx116_3)).trans hx116_3
                              replace hx116_4 := (HB.out.cell (World.block_lt_of_cell? w _ hx116_4)).trans hx116_4
                              replace hx116_5 := (HB.out.cell (World.block_lt_of_cell? w _ hx116_5)).trans hx116_5
                              replace p116 := eq_true p116
                              replace q116 := eq_true q116
                              have p117 : 0 ≤ (x3_1 : Int) := of_decide_eq_true (z_10)
                              have q117 : x3_1 < (l0.length : Int) := of_decide_eq_true (z_10)
                              obtain ⟨ad117, e117, hx117_0, hx117_1, hx117_2, hx117_3, hx117_4, hx117_5⟩ := at_T83 HR0.out x3_1 p117 q117
                              obtain rfl : ad116 = ad117 := (by injection e117)
                              replace hx117_0 := (HB.out.cell (World.block_lt_of_cell? w _ hx117_0)).trans hx117_0
                              replace hx117_1 := (HB.out.cell (World.block_lt_of_cell? w _ hx117_1)).trans hx117_1
                              replace hx117_2 := (HB.out.cell (World.block_lt_of_cell? w _ hx117_2)).trans hx117_2
                              replace hx117_3 := (HB.out.cell (World.block_lt_of_cell? w _ hx117_3)).trans hx117_3
                              replace hx117_4 := (HB.out.cell (World.block_lt_of_cell? w _ hx117_4)).trans hx117_4
                              replace hx117_5 := (HB.out.cell (World.block_lt_of_cell? w _ hx117_5)).trans hx117_5
                              replace p117 := eq_true p117
                              replace q117 := eq_true q117
                              go_wp2
                              repeat (go_quiet (fail); try go_wp2)
                              go_ret
                              exact ⟨z_4, z_2⟩
                            · rw [if_neg c16] at H
                              have c16b0 : (((rd_T83 l0 x4_3).f0.f0).toList == ((rd_T83 l0 x3_1).f0.f0).toList) = false := beq_eq_false_iff_ne.mpr c16
                              have c16b1 : (((rd_T83 l0 x4_3).f0.f0).toList != ((rd_T83 l0 x3_1).f0.f0).toList) = true := bne_iff_ne.mpr c16
                              have H' := Aside0.mk H
                              clear H
                              have p116 : 0 ≤ (x4_3 : Int) := of_decide_eq_true (z_10)
                              have q116 : x4_3 < (l0.length : Int) := of_decide_eq_true (z_10)
                              obtain ⟨ad116, e116, hx116_0, hx116_1, hx116_2, hx116_3, hx116_4, hx116_5⟩ := at_T83 HR0.out x4_3 p116 q116
                              cases e116
                              replace hx116_0 := (HB.out.cell (World.block_lt_of_cell? w _ hx116_0)).trans hx116_0
                              replace hx116_1 := (HB.out.cell (World.block_lt_of_cell? w _ hx116_1)).trans hx116_1
                              replace hx116_2 := (HB.out.cell (World.block_lt_of_cell? w _ hx116_2)).trans hx116_2
                              replace hx116_3 := (HB.out.cell (World.block_lt_of_cell? w _ hx116_3)).trans hx116_3
                              replace hx116_4 := (HB.out.cell (World.block_lt_of_cell? w _ hx116_4)).trans hx116_4
                              replace hx116_5 := (HB.out.cell (World.block_lt_of_cell? w _ hx116_5)).trans hx116_5
                              replace p116 := eq_true p116
                              replace q116 := eq_true q116
                              have p117 : 0 ≤ (x3_1 : Int) := of_decide_eq_true (z_10)
                              have q117 : x3_1 < (l0.length : Int) := of_decide_eq_true (z_10)
                              obtain ⟨ad117, e117, hx117_0, hx117_1, hx117_2, hx117_3, hx117_4, hx117_5⟩ := at_T83 HR0.out x3_1 p117 q117
                              obtain rfl : ad116 = ad117 := (by injection e117)
                              replace hx117_0 := (HB.out.cell (World.block_lt_of_cell? w _ hx117_0)).trans hx117_0
                              replace hx117_1 := (HB.out.cell (World.block_lt_of_cell? w _ hx117_1)).trans hx117_1
                              replace hx117_2 := (HB.out.cell (World.block_lt_of_cell? w _ hx117_2)).trans hx117_2
                              replace hx117_3 := (HB.out.cell (World.block_lt_of_cell? w _ hx117_3)).trans hx117_3
                              replace hx117_4 := (HB.out.cell (World.block_lt_of_cell? w _ hx117_4)).trans hx117_4
                              replace hx117_5 := (HB.out.cell (World.block_lt_of_cell? w _ hx117_5)).trans hx117_5
                              replace p117 := eq_true p117
                              replace q117 := eq_true q117
                              go_wp2
                              repeat (go_quiet (fail); try go_wp2)
                              go_roundg k3
                              case measure => have := HK1.out; have := HJ2.out; have := HK3.out; omega
                              case rel => exact ⟨(wrap64 (x4_3 + 1)), (z_9), H', ⟨by have := HK1.out; have := HJ2.out; have := HK3.out; omega⟩, ⟨z_2⟩⟩
                          · rw [if_neg c15] at H
                            exact absurd H (by simp)
                        · rw [if_neg c14] at H
                          exact absurd H (by simp)
                      · rw [if_neg c13] at H
                        exact absurd H (by simp)
                    · rw [if_neg c12] at H
                      exact absurd H (by simp)
                  · rw [if_neg c11] at H
                    have c11b0 : decide (x4_3 < x3_1) = false := decide_eq_false c11
                    clear c11
                    have H' := Aside0.mk H
                    clear H
                    go_wp2
                    repeat (go_quiet (fail); try go_wp2)
                    go_roundg k3
                    case measure => have := HK1.out; have := HJ2.out; have := HK3.out; omega
                    case rel => exact ⟨(wrap64 (x3_1 + 1)), (z_9), H', ⟨by have := HK1.out; have := HJ2.out; have := HK3.out; omega⟩, ⟨z_2⟩⟩
      · rw [if_neg c2] at H
        have c2b0 : decide (x3_1 < (l0.length : Int)) = false := decide_eq_false c2
        clear c2
        obtain rfl := Option.some.inj H
        go_wp2
        repeat (go_quiet (fail); try go_wp2)
        go_ret
        exact ⟨z_4, z_2⟩

/-! ### laws_toName: function 20 -/
def laws_toName.f (a0_0 : ByteArray) (a0_1 : Int) (a0_2 : Int) (a0_3 : ByteArray) (a0_4 : Int) : Option (ByteArray × Int × Int × ByteArray × Int) := some (a0_0, a0_1, a0_2, a0_3, a0_4)
set_option maxHeartbeats 8000000 in
set_option maxRecDepth 100000 in
theorem laws_toName.calls (a0_0 : ByteArray) (a0_1 : Int) (a0_2 : Int) (a0_3 : ByteArray) (a0_4 : Int) (r1 : ByteArray) (r2 : Int) (r3 : Int) (r4 : ByteArray) (r5 : Int) (w : World) (h : laws_toName.f a0_0 a0_1 a0_2 a0_3 a0_4 = some (r1, r2, r3, r4, r5)) :
    Calls Try.prog 20 #[.agg #[.string a0_0, .int .i64 a0_1, .int .i64 a0_2, .string a0_3, .int .i64 a0_4]] w fun e w' => e = .returned (.agg #[.string r1, .int .i64 r2, .int .i64 r3, .string r4, .int .i64 r5]) ∧ Below w.heap.size w w' := by
  have hu23 := Try.underlying23
  have hu26 := Try.underlying26
  have HB := Aside0.mk (Below.refl w.heap.size w)
  have H : (some (a0_0, a0_1, a0_2, a0_3, a0_4)) = some (r1, r2, r3, r4, r5) := h
  clear h
  simp only [Option.some.injEq, Prod.mk.injEq] at H
  obtain ⟨rfl, rfl, rfl, rfl, rfl⟩ := H
  go_enter Try.func20, Try.ntmps20
  go_wp2_with (first | ((with_reducible refine gate_dst (N := 1) rfl ?_); refine box_event ?hg (N := 1) ?hd (cs := #[.string a0_0, .int .i64 a0_1, .int .i64 a0_2, .string a0_3, .int .i64 a0_4]) (t := 23) ?hr ?_; (case hd => rfl); (case hg => rfl); (case hr => exact z_1); intro gb118 hg w2 hbox hb; have n0_ := Aside0.mk (below_step (z_2) hb); have n1_ := Aside0.mk (hbox); have n2_ := Aside0.mk ((z_3 : w.heap.size ≤ gb118)); have n3_ := Aside0.mk ((z_3 : w.heap.size ≤ gb118)); clear HB; have HB := n0_; have BK118 := n1_; have GW118 := n2_; have GE118 := n3_; clear n0_ n1_ n2_ n3_; clear hb hbox hg) | ((with_reducible refine gate_dst (N := 2) rfl ?_); refine box_event ?hg (N := 2) ?hd (cs := #[.string (⟨#[]⟩ : ByteArray), .int .i64 0, .int .i64 0, .string (⟨#[]⟩ : ByteArray), .int .i64 0]) (t := 26) ?hr ?_; (case hd => rfl); (case hg => rfl); (case hr => exact z_1); intro gb119 hg w3 hbox hb; have n0_ := Aside0.mk (blk_below (g := gb118) (o := .cells #[.string a0_0, .int .i64 a0_1, .int .i64 a0_2, .string a0_3, .int .i64 a0_4] 23 (0, 0)) (z_16) hb); have n1_ := Aside0.mk (below_step (z_17) hb); have n2_ := Aside0.mk (hbox); have n3_ := Aside0.mk ((z_18 : w.heap.size ≤ gb119)); have n4_ := Aside0.mk ((z_18 : w.heap.size ≤ gb119)); have n5_ := Aside0.mk ((z_19 : gb118 ≠ gb119)); have n6_ := Aside0.mk ((z_20 : gb119 ≠ gb118)); clear BK118; clear HB; have BK118 := n0_; have HB := n1_; have BK119 := n2_; have GW119 := n3_; have GE119 := n4_; have NB118_119 := n5_; have NB119_118 := n6_; clear n0_ n1_ n2_ n3_ n4_ n5_ n6_; clear hb hbox hg) | ((with_reducible refine gate_dst (N := 3) rfl ?_); refine box_event ?hg (N := 3) ?hd (cs := #[.string (⟨#[]⟩ : ByteArray), .int .i64 0, .int .i64 0, .string (⟨#[]⟩ : ByteArray), .int .i64 0]) (t := 26) ?hr ?_; (case hd => rfl); (case hg => rfl); (case hr => exact z_1); intro gb120 hg w4 hbox hb; have n0_ := Aside0.mk (blk_below (g := gb118) (o := .cells #[.string a0_0, .int .i64 a0_1, .int .i64 a0_2, .string a0_3, .int .i64 a0_4] 23 (0, 0)) (z_16) hb); have n1_ := Aside0.mk (blk_below (g := gb119) (o := .cells #[.string (⟨#[]⟩ : ByteArray), .int .i64 0, .int .i64 0, .string (⟨#[]⟩ : ByteArray), .int .i64 0] 26 (0, 0)) (z_21) hb); have n2_ := Aside0.mk (below_step (z_22) hb); have n3_ := Aside0.mk (hbox); have n4_ := Aside0.mk ((z_23 : w.heap.size ≤ gb120)); have n5_ := Aside0.mk ((z_23 : w.heap.size ≤ gb120)); have n6_ := Aside0.mk ((z_19 : gb118 ≠ gb120)); have n7_ := Aside0.mk ((z_20 : gb120 ≠ gb118)); have n8_ := Aside0.mk ((by rw [hg]; exact Nat.ne_of_lt (blk_lt (g := gb119) (o := .cells #[.string (⟨#[]⟩ : ByteArray), .int .i64 0, .int .i64 0, .string (⟨#[]⟩ : ByteArray), .int .i64 0] 26 (0, 0)) (z_21)) : gb119 ≠ gb120)); have n9_ := Aside0.mk ((by rw [hg]; exact Nat.ne_of_gt (blk_lt (g := gb119) (o := .cells #[.string (⟨#[]⟩ : ByteArray), .int .i64 0, .int .i64 0, .string (⟨#[]⟩ : ByteArray), .int .i64 0] 26 (0, 0)) (z_21)) : gb120 ≠ gb119)); clear BK118; clear BK119; clear HB; have BK118 := n0_; have BK119 := n1_; have HB := n2_; have BK120 := n3_; have GW120 := n4_; have GE120 := n5_; have NB118_120 := n6_; have NB120_118 := n7_; have NB119_120 := n8_; have NB120_119 := n9_; clear n0_ n1_ n2_ n3_ n4_ n5_ n6_ n7_ n8_ n9_; clear hb hbox hg; have hnb5 := NB118_119.out; have hnc5 := NB119_118.out; have hnb6 := NB118_120.out; have hnc6 := NB120_118.out; have hcz7_0 : w4.cell? ⟨gb118, 0, none⟩ = some (.string a0_0) := (blk_cell BK118.out 0).trans rfl; have hcz7_1 : w4.cell? ⟨gb118, 1, none⟩ = some (.int .i64 a0_1) := (blk_cell BK118.out 1).trans rfl; have hcz7_2 : w4.cell? ⟨gb118, 2, none⟩ = some (.int .i64 a0_2) := (blk_cell BK118.out 2).trans rfl; have hcz7_3 : w4.cell? ⟨gb118, 3, none⟩ = some (.string a0_3) := (blk_cell BK118.out 3).trans rfl; have hcz7_4 : w4.cell? ⟨gb118, 4, none⟩ = some (.int .i64 a0_4) := (blk_cell BK118.out 4).trans rfl; have hfz7_0 := blk_frozen BK118.out 0; have hfz7_1 := blk_frozen BK118.out 1; have hfz7_2 := blk_frozen BK118.out 2; have hfz7_3 := blk_frozen BK118.out 3; have hfz7_4 := blk_frozen BK118.out 4; have hnb8 := NB120_119.out; have hnc8 := NB119_120.out; have hcz9_0 : w4.cell? ⟨gb120, 0, none⟩ = some (.string (⟨#[]⟩ : ByteArray)) := (blk_cell BK120.out 0).trans rfl; have hcz9_1 : w4.cell? ⟨gb120, 1, none⟩ = some (.int .i64 0) := (blk_cell BK120.out 1).trans rfl; have hcz9_2 : w4.cell? ⟨gb120, 2, none⟩ = some (.int .i64 0) := (blk_cell BK120.out 2).trans rfl; have hcz9_3 : w4.cell? ⟨gb120, 3, none⟩ = some (.string (⟨#[]⟩ : ByteArray)) := (blk_cell BK120.out 3).trans rfl; have hcz9_4 : w4.cell? ⟨gb120, 4, none⟩ = some (.int .i64 0) := (blk_cell BK120.out 4).trans rfl; have hfz9_0 := blk_frozen BK120.out 0; have hfz9_1 := blk_frozen BK120.out 1; have hfz9_2 := blk_frozen BK120.out 2; have hfz9_3 := blk_frozen BK120.out 3; have hfz9_4 := blk_frozen BK120.out 4; have hcz10_0 : w4.cell? ⟨gb119, 0, none⟩ = some (.string (⟨#[]⟩ : ByteArray)) := (blk_cell BK119.out 0).trans rfl; have hcz10_1 : w4.cell? ⟨gb119, 1, none⟩ = some (.int .i64 0) := (blk_cell BK119.out 1).trans rfl; have hcz10_2 : w4.cell? ⟨gb119, 2, none⟩ = some (.int .i64 0) := (blk_cell BK119.out 2).trans rfl; have hcz10_3 : w4.cell? ⟨gb119, 3, none⟩ = some (.string (⟨#[]⟩ : ByteArray)) := (blk_cell BK119.out 3).trans rfl; have hcz10_4 : w4.cell? ⟨gb119, 4, none⟩ = some (.int .i64 0) := (blk_cell BK119.out 4).trans rfl; have hfz10_0 := blk_frozen BK119.out 0; have hfz10_1 := blk_frozen BK119.out 1; have hfz10_2 := blk_frozen BK119.out 2; have hfz10_3 := blk_frozen BK119.out 3; have hfz10_4 := blk_frozen BK119.out 4))
  refine bodyPost_ret (results_cell_row rfl _ _ gb119 26 #[.string a0_0, .int .i64 a0_1, .int .i64 a0_2, .string a0_3, .int .i64 a0_4] (0, 0) _ rfl (by (with_reducible repeat (first | refine blk_drewN ?_ _ | refine blk_drew ?_ | refine blk_alloc ?_ _)); refine blk_put (cs := #[.string a0_0, .int .i64 a0_1, .int .i64 a0_2, .string a0_3, .int .i64 0]) ?_ 4 _ rfl; (with_reducible repeat (first | refine blk_drewN ?_ _ | refine blk_drew ?_ | refine blk_alloc ?_ _)); refine blk_put (cs := #[.string a0_0, .int .i64 a0_1, .int .i64 a0_2, .string (⟨#[]⟩ : ByteArray), .int .i64 0]) ?_ 3 _ rfl; (with_reducible repeat (first | refine blk_drewN ?_ _ | refine blk_drew ?_ | refine blk_alloc ?_ _)); refine blk_put (cs := #[.string a0_0, .int .i64 a0_1, .int .i64 0, .string (⟨#[]⟩ : ByteArray), .int .i64 0]) ?_ 2 _ rfl; (with_reducible repeat (first | refine blk_drewN ?_ _ | refine blk_drew ?_ | refine blk_alloc ?_ _)); refine blk_put (cs := #[.string a0_0, .int .i64 0, .int .i64 0, .string (⟨#[]⟩ : ByteArray), .int .i64 0]) ?_ 1 _ rfl; (with_reducible repeat (first | refine blk_drewN ?_ _ | refine blk_drew ?_ | refine blk_alloc ?_ _)); refine blk_put (cs := #[.string (⟨#[]⟩ : ByteArray), .int .i64 0, .int .i64 0, .string (⟨#[]⟩ : ByteArray), .int .i64 0]) ?_ 0 _ rfl; (with_reducible repeat (first | refine blk_drewN ?_ _ | refine blk_drew ?_ | refine blk_alloc ?_ _)); refine blk_far ?_ NB119_120.out _; (with_reducible repeat (first | refine blk_drewN ?_ _ | refine blk_drew ?_ | refine blk_alloc ?_ _)); refine blk_far ?_ NB119_120.out _; (with_reducible repeat (first | refine blk_drewN ?_ _ | refine blk_drew ?_ | refine blk_alloc ?_ _)); refine blk_far ?_ NB119_120.out _; (with_reducible repeat (first | refine blk_drewN ?_ _ | refine blk_drew ?_ | refine blk_alloc ?_ _)); refine blk_far ?_ NB119_120.out _; (with_reducible repeat (first | refine blk_drewN ?_ _ | refine blk_drew ?_ | refine blk_alloc ?_ _)); refine blk_far ?_ NB119_120.out _; (with_reducible repeat (first | refine blk_drewN ?_ _ | refine blk_drew ?_ | refine blk_alloc ?_ _)); exact BK119.out) Try.underlying26 rfl (z_0)) rfl ?_
  exact ⟨z_4, by repeat (first | (with_reducible first | exact HB.out | apply below_alloc | apply pw_below_drewN | apply below_drew1 | refine below_set ?_ GE118.out | refine below_set ?_ GE119.out | refine below_set ?_ GE120.out) | exact HB.out)⟩

/-! ### laws_toKept: function 65 -/
def laws_toKept.f (a0_0 : ByteArray) (a0_1 : Int) (a0_2 : Int) (a0_3 : ByteArray) (a0_4 : Int) (a0_5 : Int) : Option (ByteArray × Int × Int × ByteArray × Int × Int) := (laws_toName.f a0_0 a0_1 a0_2 a0_3 a0_4).bind fun bt124 => (some (bt124.1, bt124.2.1, bt124.2.2.1, bt124.2.2.2.1, bt124.2.2.2.2, a0_5))
set_option maxHeartbeats 8000000 in
set_option maxRecDepth 100000 in
theorem laws_toKept.calls (a0_0 : ByteArray) (a0_1 : Int) (a0_2 : Int) (a0_3 : ByteArray) (a0_4 : Int) (a0_5 : Int) (r1 : ByteArray) (r2 : Int) (r3 : Int) (r4 : ByteArray) (r5 : Int) (r6 : Int) (w : World) (h : laws_toKept.f a0_0 a0_1 a0_2 a0_3 a0_4 a0_5 = some (r1, r2, r3, r4, r5, r6)) :
    Calls Try.prog 65 #[.agg #[.string a0_0, .int .i64 a0_1, .int .i64 a0_2, .string a0_3, .int .i64 a0_4, .int .i64 a0_5]] w fun e w' => e = .returned (.agg #[.string r1, .int .i64 r2, .int .i64 r3, .string r4, .int .i64 r5, .int .i64 r6]) ∧ Below w.heap.size w w' := by
  have hu81 := Try.underlying81
  have hu83 := Try.underlying83
  have hu23 := Try.underlying23
  have hu26 := Try.underlying26
  have HB := Aside0.mk (Below.refl w.heap.size w)
  have H : ((laws_toName.f a0_0 a0_1 a0_2 a0_3 a0_4).bind fun bt124 => (some (bt124.1, bt124.2.1, bt124.2.2.1, bt124.2.2.2.1, bt124.2.2.2.2, a0_5))) = some (r1, r2, r3, r4, r5, r6) := h
  clear h
  replace H := Option.bind_eq_some_iff.mp H
  obtain ⟨⟨t124, t125, t126, t127, t128⟩, A20, H⟩ := H
  replace H : (some (t124, t125, t126, t127, t128, a0_5)) = some (r1, r2, r3, r4, r5, r6) := H
  have A2 := Aside0.mk A20
  clear A20
  simp only [Option.some.injEq, Prod.mk.injEq] at H
  obtain ⟨rfl, rfl, rfl, rfl, rfl, rfl⟩ := H
  go_enter Try.func65, Try.ntmps65
  go_wp2_with (first | ((with_reducible refine gate_dst (N := 1) rfl ?_); refine box_event ?hg (N := 1) ?hd (cs := #[.string a0_0, .int .i64 a0_1, .int .i64 a0_2, .string a0_3, .int .i64 a0_4, .int .i64 a0_5]) (t := 81) ?hr ?_; (case hd => rfl); (case hg => rfl); (case hr => exact z_1); intro gb121 hg w3 hbox hb; have n0_ := Aside0.mk (below_step (z_2) hb); have n1_ := Aside0.mk (hbox); have n2_ := Aside0.mk ((z_3 : w.heap.size ≤ gb121)); have n3_ := Aside0.mk ((z_3 : w.heap.size ≤ gb121)); clear HB; have HB := n0_; have BK121 := n1_; have GW121 := n2_; have GE121 := n3_; clear n0_ n1_ n2_ n3_; clear hb hbox hg) | ((with_reducible refine gate_dst (N := 2) rfl ?_); refine box_event ?hg (N := 2) ?hd (cs := #[.string (⟨#[]⟩ : ByteArray), .int .i64 0, .int .i64 0, .string (⟨#[]⟩ : ByteArray), .int .i64 0, .int .i64 0]) (t := 83) ?hr ?_; (case hd => rfl); (case hg => rfl); (case hr => exact z_1); intro gb122 hg w4 hbox hb; have n0_ := Aside0.mk (blk_below (g := gb121) (o := .cells #[.string a0_0, .int .i64 a0_1, .int .i64 a0_2, .string a0_3, .int .i64 a0_4, .int .i64 a0_5] 81 (0, 0)) (z_24) hb); have n1_ := Aside0.mk (below_step (z_25) hb); have n2_ := Aside0.mk (hbox); have n3_ := Aside0.mk ((z_26 : w.heap.size ≤ gb122)); have n4_ := Aside0.mk ((z_26 : w.heap.size ≤ gb122)); have n5_ := Aside0.mk ((z_27 : gb121 ≠ gb122)); have n6_ := Aside0.mk ((z_28 : gb122 ≠ gb121)); clear BK121; clear HB; have BK121 := n0_; have HB := n1_; have BK122 := n2_; have GW122 := n3_; have GE122 := n4_; have NB121_122 := n5_; have NB122_121 := n6_; clear n0_ n1_ n2_ n3_ n4_ n5_ n6_; clear hb hbox hg) | ((with_reducible refine gate_dst (N := 3) rfl ?_); refine box_event ?hg (N := 3) ?hd (cs := #[.string (⟨#[]⟩ : ByteArray), .int .i64 0, .int .i64 0, .string (⟨#[]⟩ : ByteArray), .int .i64 0, .int .i64 0]) (t := 83) ?hr ?_; (case hd => rfl); (case hg => rfl); (case hr => exact z_1); intro gb123 hg w5 hbox hb; have n0_ := Aside0.mk (blk_below (g := gb121) (o := .cells #[.string a0_0, .int .i64 a0_1, .int .i64 a0_2, .string a0_3, .int .i64 a0_4, .int .i64 a0_5] 81 (0, 0)) (z_24) hb); have n1_ := Aside0.mk (blk_below (g := gb122) (o := .cells #[.string (⟨#[]⟩ : ByteArray), .int .i64 0, .int .i64 0, .string (⟨#[]⟩ : ByteArray), .int .i64 0, .int .i64 0] 83 (0, 0)) (z_29) hb); have n2_ := Aside0.mk (below_step (z_30) hb); have n3_ := Aside0.mk (hbox); have n4_ := Aside0.mk ((z_31 : w.heap.size ≤ gb123)); have n5_ := Aside0.mk ((z_31 : w.heap.size ≤ gb123)); have n6_ := Aside0.mk ((z_27 : gb121 ≠ gb123)); have n7_ := Aside0.mk ((z_28 : gb123 ≠ gb121)); have n8_ := Aside0.mk ((by rw [hg]; exact Nat.ne_of_lt (blk_lt (g := gb122) (o := .cells #[.string (⟨#[]⟩ : ByteArray), .int .i64 0, .int .i64 0, .string (⟨#[]⟩ : ByteArray), .int .i64 0, .int .i64 0] 83 (0, 0)) (z_29)) : gb122 ≠ gb123)); have n9_ := Aside0.mk ((by rw [hg]; exact Nat.ne_of_gt (blk_lt (g := gb122) (o := .cells #[.string (⟨#[]⟩ : ByteArray), .int .i64 0, .int .i64 0, .string (⟨#[]⟩ : ByteArray), .int .i64 0, .int .i64 0] 83 (0, 0)) (z_29)) : gb123 ≠ gb122)); clear BK121; clear BK122; clear HB; have BK121 := n0_; have BK122 := n1_; have HB := n2_; have BK123 := n3_; have GW123 := n4_; have GE123 := n5_; have NB121_123 := n6_; have NB123_121 := n7_; have NB122_123 := n8_; have NB123_122 := n9_; clear n0_ n1_ n2_ n3_ n4_ n5_ n6_ n7_ n8_ n9_; clear hb hbox hg; have hnb6 := NB121_122.out; have hnc6 := NB122_121.out; have hnb7 := NB121_123.out; have hnc7 := NB123_121.out; have hcz8_0 : w5.cell? ⟨gb121, 0, none⟩ = some (.string a0_0) := (blk_cell BK121.out 0).trans rfl; have hcz8_1 : w5.cell? ⟨gb121, 1, none⟩ = some (.int .i64 a0_1) := (blk_cell BK121.out 1).trans rfl; have hcz8_2 : w5.cell? ⟨gb121, 2, none⟩ = some (.int .i64 a0_2) := (blk_cell BK121.out 2).trans rfl; have hcz8_3 : w5.cell? ⟨gb121, 3, none⟩ = some (.string a0_3) := (blk_cell BK121.out 3).trans rfl; have hcz8_4 : w5.cell? ⟨gb121, 4, none⟩ = some (.int .i64 a0_4) := (blk_cell BK121.out 4).trans rfl; have hcz8_5 : w5.cell? ⟨gb121, 5, none⟩ = some (.int .i64 a0_5) := (blk_cell BK121.out 5).trans rfl; have hfz8_0 := blk_frozen BK121.out 0; have hfz8_1 := blk_frozen BK121.out 1; have hfz8_2 := blk_frozen BK121.out 2; have hfz8_3 := blk_frozen BK121.out 3; have hfz8_4 := blk_frozen BK121.out 4; have hfz8_5 := blk_frozen BK121.out 5) | ((with_reducible refine gate_callee (f := 20) rfl ?_); refine goesL_ (some 6) rfl rfl Try.func20 (z_0) rfl #[.agg #[.string a0_0, .int .i64 a0_1, .int .i64 a0_2, .string a0_3, .int .i64 a0_4]] rfl (z_6) ?_; (with_reducible refine (laws_toName.calls a0_0 a0_1 a0_2 a0_3 a0_4 t124 t125 t126 t127 t128 _ A2.out).mono ?_); rintro e w9 ⟨rfl, hb⟩; refine ⟨_, rfl, ?_⟩; have n0_ := Aside0.mk (blk_below (g := gb121) (o := .cells #[.string a0_0, .int .i64 a0_1, .int .i64 a0_2, .string a0_3, .int .i64 a0_4, .int .i64 a0_5] 81 (0, 0)) (z_24) hb); have n1_ := Aside0.mk (blk_below (g := gb122) (o := .cells #[.string (⟨#[]⟩ : ByteArray), .int .i64 0, .int .i64 0, .string (⟨#[]⟩ : ByteArray), .int .i64 0, .int .i64 0] 83 (0, 0)) (z_29) hb); have n2_ := Aside0.mk (blk_below (g := gb123) (o := .cells #[.string (⟨#[]⟩ : ByteArray), .int .i64 0, .int .i64 0, .string (⟨#[]⟩ : ByteArray), .int .i64 0, .int .i64 0] 83 (0, 0)) (by (with_reducible repeat (first | refine blk_drewN ?_ _ | refine blk_drew ?_ | refine blk_alloc ?_ _)); exact BK123.out) hb); have n3_ := Aside0.mk (below_step (z_32) hb); clear BK121; clear BK122; clear BK123; clear HB; have BK121 := n0_; have BK122 := n1_; have BK123 := n2_; have HB := n3_; clear n0_ n1_ n2_ n3_; (try clear hb); (try clear hb2); (try clear hk); (try clear hi); have hnb10 := NB123_122.out; have hnc10 := NB122_123.out; have hcz11_0 : w9.cell? ⟨gb123, 0, none⟩ = some (.string (⟨#[]⟩ : ByteArray)) := (blk_cell BK123.out 0).trans rfl; have hcz11_1 : w9.cell? ⟨gb123, 1, none⟩ = some (.int .i64 0) := (blk_cell BK123.out 1).trans rfl; have hcz11_2 : w9.cell? ⟨gb123, 2, none⟩ = some (.int .i64 0) := (blk_cell BK123.out 2).trans rfl; have hcz11_3 : w9.cell? ⟨gb123, 3, none⟩ = some (.string (⟨#[]⟩ : ByteArray)) := (blk_cell BK123.out 3).trans rfl; have hcz11_4 : w9.cell? ⟨gb123, 4, none⟩ = some (.int .i64 0) := (blk_cell BK123.out 4).trans rfl; have hcz11_5 : w9.cell? ⟨gb123, 5, none⟩ = some (.int .i64 0) := (blk_cell BK123.out 5).trans rfl; have hfz11_0 := blk_frozen BK123.out 0; have hfz11_1 := blk_frozen BK123.out 1; have hfz11_2 := blk_frozen BK123.out 2; have hfz11_3 := blk_frozen BK123.out 3; have hfz11_4 := blk_frozen BK123.out 4; have hfz11_5 := blk_frozen BK123.out 5; have hcz12_0 : w9.cell? ⟨gb121, 0, none⟩ = some (.string a0_0) := (blk_cell BK121.out 0).trans rfl; have hcz12_1 : w9.cell? ⟨gb121, 1, none⟩ = some (.int .i64 a0_1) := (blk_cell BK121.out 1).trans rfl; have hcz12_2 : w9.cell? ⟨gb121, 2, none⟩ = some (.int .i64 a0_2) := (blk_cell BK121.out 2).trans rfl; have hcz12_3 : w9.cell? ⟨gb121, 3, none⟩ = some (.string a0_3) := (blk_cell BK121.out 3).trans rfl; have hcz12_4 : w9.cell? ⟨gb121, 4, none⟩ = some (.int .i64 a0_4) := (blk_cell BK121.out 4).trans rfl; have hcz12_5 : w9.cell? ⟨gb121, 5, none⟩ = some (.int .i64 a0_5) := (blk_cell BK121.out 5).trans rfl; have hfz12_0 := blk_frozen BK121.out 0; have hfz12_1 := blk_frozen BK121.out 1; have hfz12_2 := blk_frozen BK121.out 2; have hfz12_3 := blk_frozen BK121.out 3; have hfz12_4 := blk_frozen BK121.out 4; have hfz12_5 := blk_frozen BK121.out 5; have hcz13_0 : w9.cell? ⟨gb122, 0, none⟩ = some (.string (⟨#[]⟩ : ByteArray)) := (blk_cell BK122.out 0).trans rfl; have hcz13_1 : w9.cell? ⟨gb122, 1, none⟩ = some (.int .i64 0) := (blk_cell BK122.out 1).trans rfl; have hcz13_2 : w9.cell? ⟨gb122, 2, none⟩ = some (.int .i64 0) := (blk_cell BK122.out 2).trans rfl; have hcz13_3 : w9.cell? ⟨gb122, 3, none⟩ = some (.string (⟨#[]⟩ : ByteArray)) := (blk_cell BK122.out 3).trans rfl; have hcz13_4 : w9.cell? ⟨gb122, 4, none⟩ = some (.int .i64 0) := (blk_cell BK122.out 4).trans rfl; have hcz13_5 : w9.cell? ⟨gb122, 5, none⟩ = some (.int .i64 0) := (blk_cell BK122.out 5).trans rfl; have hfz13_0 := blk_frozen BK122.out 0; have hfz13_1 := blk_frozen BK122.out 1; have hfz13_2 := blk_frozen BK122.out 2; have hfz13_3 := blk_frozen BK122.out 3; have hfz13_4 := blk_frozen BK122.out 4; have hfz13_5 := blk_frozen BK122.out 5))
  refine bodyPost_ret (results_cell_row rfl _ _ gb122 83 #[.string t124, .int .i64 t125, .int .i64 t126, .string t127, .int .i64 t128, .int .i64 a0_5] (0, 0) _ rfl (by (with_reducible repeat (first | refine blk_drewN ?_ _ | refine blk_drew ?_ | refine blk_alloc ?_ _)); refine blk_put (cs := #[.string t124, .int .i64 t125, .int .i64 t126, .string t127, .int .i64 t128, .int .i64 0]) ?_ 5 _ rfl; (with_reducible repeat (first | refine blk_drewN ?_ _ | refine blk_drew ?_ | refine blk_alloc ?_ _)); refine blk_put (cs := #[.string t124, .int .i64 t125, .int .i64 t126, .string t127, .int .i64 0, .int .i64 0]) ?_ 4 _ rfl; (with_reducible repeat (first | refine blk_drewN ?_ _ | refine blk_drew ?_ | refine blk_alloc ?_ _)); refine blk_put (cs := #[.string t124, .int .i64 t125, .int .i64 t126, .string (⟨#[]⟩ : ByteArray), .int .i64 0, .int .i64 0]) ?_ 3 _ rfl; (with_reducible repeat (first | refine blk_drewN ?_ _ | refine blk_drew ?_ | refine blk_alloc ?_ _)); refine blk_put (cs := #[.string t124, .int .i64 t125, .int .i64 0, .string (⟨#[]⟩ : ByteArray), .int .i64 0, .int .i64 0]) ?_ 2 _ rfl; (with_reducible repeat (first | refine blk_drewN ?_ _ | refine blk_drew ?_ | refine blk_alloc ?_ _)); refine blk_put (cs := #[.string t124, .int .i64 0, .int .i64 0, .string (⟨#[]⟩ : ByteArray), .int .i64 0, .int .i64 0]) ?_ 1 _ rfl; (with_reducible repeat (first | refine blk_drewN ?_ _ | refine blk_drew ?_ | refine blk_alloc ?_ _)); refine blk_put (cs := #[.string (⟨#[]⟩ : ByteArray), .int .i64 0, .int .i64 0, .string (⟨#[]⟩ : ByteArray), .int .i64 0, .int .i64 0]) ?_ 0 _ rfl; (with_reducible repeat (first | refine blk_drewN ?_ _ | refine blk_drew ?_ | refine blk_alloc ?_ _)); refine blk_far ?_ NB122_123.out _; (with_reducible repeat (first | refine blk_drewN ?_ _ | refine blk_drew ?_ | refine blk_alloc ?_ _)); refine blk_far ?_ NB122_123.out _; (with_reducible repeat (first | refine blk_drewN ?_ _ | refine blk_drew ?_ | refine blk_alloc ?_ _)); refine blk_far ?_ NB122_123.out _; (with_reducible repeat (first | refine blk_drewN ?_ _ | refine blk_drew ?_ | refine blk_alloc ?_ _)); refine blk_far ?_ NB122_123.out _; (with_reducible repeat (first | refine blk_drewN ?_ _ | refine blk_drew ?_ | refine blk_alloc ?_ _)); refine blk_far ?_ NB122_123.out _; (with_reducible repeat (first | refine blk_drewN ?_ _ | refine blk_drew ?_ | refine blk_alloc ?_ _)); refine blk_far ?_ NB122_123.out _; (with_reducible repeat (first | refine blk_drewN ?_ _ | refine blk_drew ?_ | refine blk_alloc ?_ _)); exact BK122.out) Try.underlying83 rfl (z_0)) rfl ?_
  exact ⟨z_4, z_32⟩

/-! ### laws_toKeptS: function 35 -/
def laws_toKeptS.l0 : Nat → List (S81) → List (S83) → Int → Option ((List (S83)))
  | 0, _, _, _ => none
  | k + 1, x0, x3, x4 => if x4 < (x0.length : Int) then (if 0 ≤ x4 then ((laws_toKept.f ((rd_T81 x0 x4).f0.f0) ((rd_T81 x0 x4).f0.f1) ((rd_T81 x0 x4).f0.f2) ((rd_T81 x0 x4).f0.f3) ((rd_T81 x0 x4).f0.f4) ((rd_T81 x0 x4).f1)).bind fun bt133 => (if x4 < (x3.length : Int) then (laws_toKeptS.l0 k x0 (x3.set (x4 : Int).toNat (⟨(⟨bt133.1, bt133.2.1, bt133.2.2.1, bt133.2.2.2.1, bt133.2.2.2.2.1⟩ : S26), bt133.2.2.2.2.2⟩ : S83)) (wrap64 (x4 + 1))) else (none))) else (none)) else (some x3)
def laws_toKeptS.f (k : Nat) (l0 : List (S81)) : Option ((List (S83))) := if 0 ≤ (l0.length : Int) then (if ((l0.length : Int) : Int).toNat ≤ 4398046511104 then (laws_toKeptS.l0 k l0 (List.replicate ((l0.length : Int) : Int).toNat z83) 0) else (none)) else (none)
theorem laws_toKeptS.mono_l : ∀ k, (∀ y0 y1 y2, LeO (laws_toKeptS.l0 k y0 y1 y2) (laws_toKeptS.l0 (k + 1) y0 y1 y2))
  | 0 => fun _ _ _ r h => by simp [laws_toKeptS.l0] at h
  | k + 1 => by
    have ih0 := laws_toKeptS.mono_l k
    · intro y0 y1 y2
      unfold laws_toKeptS.l0
      repeat' first
      | (with_reducible exact ih0 _ _ _)
      | (with_reducible exact LeO.refl _)
      | (with_reducible exact LeO.none _)
      | (with_reducible refine LeO.ite ?_ ?_)
      | (with_reducible refine LeO.bind ?_ (fun _ => ?_))
      | exact ih0 _ _ _
      | exact LeO.none _
      | refine LeO.ite ?_ ?_
      | refine LeO.bind ?_ (fun _ => ?_)
theorem laws_toKeptS.mono : ∀ a0 k, LeO (laws_toKeptS.f k a0) (laws_toKeptS.f (k + 1) a0) := by
  intro a0 k
  have ih0 := laws_toKeptS.mono_l k
  unfold laws_toKeptS.f
  repeat' first
      | (with_reducible exact ih0 _ _ _)
      | (with_reducible exact LeO.refl _)
      | (with_reducible exact LeO.none _)
      | (with_reducible refine LeO.ite ?_ ?_)
      | (with_reducible refine LeO.bind ?_ (fun _ => ?_))
      | exact ih0 _ _ _
      | exact LeO.none _
      | refine LeO.ite ?_ ?_
      | refine LeO.bind ?_ (fun _ => ?_)
set_option maxHeartbeats 8000000 in
set_option maxRecDepth 100000 in
theorem laws_toKeptS.calls (k : Nat) (A0 : Option Addr) (c0 : Nat) (l0 : List (S81)) (r : List (S83)) (w : World) (hr0 : Kd.C k81 w A0 l0.length l0) (hc0 : l0.length ≤ c0) (h : laws_toKeptS.f k l0 = some r) :
    Calls Try.prog 35 #[.slice A0 l0.length c0] w fun e w' => ∃ v0_ : Value, e = .returned (v0_) ∧ Kd.R k83 83 w' w.heap.size (fun _ => True) v0_ r ∧ Below w.heap.size w w' := by
  have hu81 := Try.underlying81
  have hu83 := Try.underlying83
  have HR0 := Aside0.mk hr0
  have HC0 := Aside0.mk hc0
  clear hr0 hc0
  have HB := Aside0.mk (Below.refl w.heap.size w)
  have H : (if 0 ≤ (l0.length : Int) then (if ((l0.length : Int) : Int).toNat ≤ 4398046511104 then (laws_toKeptS.l0 k l0 (List.replicate ((l0.length : Int) : Int).toNat z83) 0) else (none)) else (none)) = some r := h
  clear h
  by_cases c2 : 0 ≤ (l0.length : Int)
  · rw [if_pos c2] at H
    have c2b0 := eq_true c2
    have c2b1 : decide (0 ≤ (l0.length : Int)) = true := decide_eq_true c2
    clear c2
    by_cases c3 : ((l0.length : Int) : Int).toNat ≤ 4398046511104
    · rw [if_pos c3] at H
      have c3b0 := eq_true c3
      have c3b1 : decide (((l0.length : Int) : Int).toNat ≤ 4398046511104) = true := decide_eq_true c3
      clear c3
      obtain ⟨y129, hy129⟩ : ∃ y_ : List (S83), y_ = (List.replicate ((l0.length : Int) : Int).toNat z83) := ⟨_, rfl⟩
      replace H : (laws_toKeptS.l0 k l0 y129 0) = some r := by first | (rw [hy129]; with_reducible exact H) | (have H2_ := (Option.bind_some _ _).symm.trans H; rw [hy129]; with_reducible exact H2_) | (have H2_ := (Option.bind_some _ _).symm.trans H; with_reducible exact H2_) | with_reducible exact H | (rw [hy129]; exact H) | exact H
      have Ny129 := Aside0.mk hy129
      clear hy129
      have H' := Aside0.mk H
      clear H
      go_enter Try.func35, Try.ntmps35
      go_wp2_with (first | ((with_reducible refine gate_dst (N := 7) rfl ?_); refine Kd.R_make k83 _ 83 rfl (N := 7) rfl 48 _ _ rfl (l0.length : Int) rfl rfl Try.underlying48 (.agg #[(.string ⟨#[]⟩), (.int .i64 0), (.int .i64 0), (.string ⟨#[]⟩), (.int .i64 0), (.int .i64 0)]) 64 info83 rfl (z_33) (by omega) z83 (ok := fun _ => True) (okp := fun _ => True) (k83_mkM _ _ _ z83 ) (fun _ hk => hk) trivial (of_decide_eq_true (z_10)) (Nat.le_trans (Nat.mul_le_mul_right _ (of_decide_eq_true (z_10) : (l0.length : Int).toNat ≤ 4398046511104)) (by omega)) (Below.refl _ _) (Nat.le_refl _) ?_; intro v130 w4 ho5 hb hg_ hnew_; clear hg_ hnew_; (first | rw [← Ny129.out] at ho5 | (simp only [Int.reduceToNat] at ho5; rw [← Ny129.out] at ho5)); have n0_ := Aside0.mk (Kd.R_lower ho5 (below_size (z_2))); have n1_ := Aside0.mk (below_step (z_2) hb); clear HB; have HO131 := n0_; have HB := n1_; clear n0_ n1_; clear hb ho5))
      go_loopg [4] k (fun kq v4 w' => ∃ (x3_1 : List (S83)) (x4_1 : Int), v4 = .int .i64 x4_1 ∧ Aside0 (laws_toKeptS.l0 kq l0 x3_1 x4_1 = some r) ∧ Aside0 (kq ≤ k) ∧ Aside0 (Kd.R k83 83 w' w.heap.size (fun _ => True) v130 x3_1) ∧ Aside0 (Below w.heap.size w w'))
      case atStart => exact ⟨(y129), (0), (z_9), H', ⟨Nat.le_refl _⟩, ⟨by (with_reducible repeat (first | apply Kd.R_alloc | apply Kd.R_drewN | apply Kd.R_drew)); exact HO131.out⟩, ⟨z_2⟩⟩
      case round =>
        clear H'
        try clear c2
        try clear c2b0
        try clear c2b1
        try clear p2
        try clear c3
        try clear c3b0
        try clear c3b1
        obtain ⟨x3_1, x4_1, rfl, HA, HK1, HO_3, HB⟩ := hrel
        cases gk with
        | zero => exact absurd HA.out (by simp [laws_toKeptS.l0])
        | succ k1 =>
          have H := HA.out
          clear HA
          simp only [laws_toKeptS.l0] at H
          by_cases c6 : x4_1 < (l0.length : Int)
          · rw [if_pos c6] at H
            have c6b0 : decide (x4_1 < (l0.length : Int)) = true := decide_eq_true c6
            clear c6
            by_cases c7 : 0 ≤ x4_1
            · rw [if_pos c7] at H
              have c7b0 : decide (0 ≤ x4_1) = true := decide_eq_true c7
              clear c7
              replace H := Option.bind_eq_some_iff.mp H
              obtain ⟨⟨t133, t134, t135, t136, t137, t138⟩, A80, H⟩ := H
              replace H : (if x4_1 < (x3_1.length : Int) then (laws_toKeptS.l0 k1 l0 (x3_1.set (x4_1 : Int).toNat (⟨(⟨t133, t134, t135, t136, t137⟩ : S26), t138⟩ : S83)) (wrap64 (x4_1 + 1))) else (none)) = some r := H
              have A8 := Aside0.mk A80
              clear A80
              by_cases c9 : x4_1 < (x3_1.length : Int)
              · rw [if_pos c9] at H
                have c9b0 : decide (x4_1 < (x3_1.length : Int)) = true := decide_eq_true c9
                clear c9
                obtain ⟨y139, hy139⟩ : ∃ y_ : List (S83), y_ = (x3_1.set (x4_1 : Int).toNat (⟨(⟨t133, t134, t135, t136, t137⟩ : S26), t138⟩ : S83)) := ⟨_, rfl⟩
                replace H : (laws_toKeptS.l0 k1 l0 y139 (wrap64 (x4_1 + 1))) = some r := by first | (rw [hy139]; with_reducible exact H) | (have H2_ := (Option.bind_some _ _).symm.trans H; rw [hy139]; with_reducible exact H2_) | (have H2_ := (Option.bind_some _ _).symm.trans H; with_reducible exact H2_) | with_reducible exact H | (rw [hy139]; exact H) | exact H
                have Ny139 := Aside0.mk hy139
                clear hy139
                have H' := Aside0.mk H
                clear H
                have p132 : 0 ≤ (x4_1 : Int) := of_decide_eq_true (z_10)
                have q132 : x4_1 < (l0.length : Int) := of_decide_eq_true (z_10)
                obtain ⟨ad132, e132, hx132_0, hx132_1, hx132_2, hx132_3, hx132_4, hx132_5⟩ := at_T81 HR0.out x4_1 p132 q132
                cases e132
                replace hx132_0 := (HB.out.cell (World.block_lt_of_cell? w _ hx132_0)).trans hx132_0
                replace hx132_1 := (HB.out.cell (World.block_lt_of_cell? w _ hx132_1)).trans hx132_1
                replace hx132_2 := (HB.out.cell (World.block_lt_of_cell? w _ hx132_2)).trans hx132_2
                replace hx132_3 := (HB.out.cell (World.block_lt_of_cell? w _ hx132_3)).trans hx132_3
                replace hx132_4 := (HB.out.cell (World.block_lt_of_cell? w _ hx132_4)).trans hx132_4
                replace hx132_5 := (HB.out.cell (World.block_lt_of_cell? w _ hx132_5)).trans hx132_5
                replace p132 := eq_true p132
                replace q132 := eq_true q132
                go_wp2_with (first | ((with_reducible refine gate_callee (f := 65) rfl ?_); refine goesL_ (some 20) rfl rfl Try.func65 (z_0) rfl #[.agg #[.string ((rd_T81 l0 x4_1).f0.f0), .int .i64 ((rd_T81 l0 x4_1).f0.f1), .int .i64 ((rd_T81 l0 x4_1).f0.f2), .string ((rd_T81 l0 x4_1).f0.f3), .int .i64 ((rd_T81 l0 x4_1).f0.f4), .int .i64 ((rd_T81 l0 x4_1).f1)]] rfl (z_6) ?_; (with_reducible refine (laws_toKept.calls ((rd_T81 l0 x4_1).f0.f0) ((rd_T81 l0 x4_1).f0.f1) ((rd_T81 l0 x4_1).f0.f2) ((rd_T81 l0 x4_1).f0.f3) ((rd_T81 l0 x4_1).f0.f4) ((rd_T81 l0 x4_1).f1) t133 t134 t135 t136 t137 t138 _ A8.out).mono ?_); rintro e w11 ⟨rfl, hb⟩; refine ⟨_, rfl, ?_⟩; have n0_ := Aside0.mk (Kd.R_below (z_34) hb); have n1_ := Aside0.mk (below_step (z_2) hb); clear HO_3; clear HB; have HO_3 := n0_; have HB := n1_; clear n0_ n1_; (try clear hb); (try clear hb2); (try clear hk); (try clear hi); have p10 : 0 ≤ (x4_1 : Int) := of_decide_eq_true (z_10); have q10 : (x4_1 : Int) < ((x3_1.length : Int) : Int) := of_decide_eq_true (z_10); obtain ⟨go10, co10, eo10, gb10, gl10, cl10, HG10⟩ := Kd.R_form HO_3.out (by omega); (first | cases eo10 | (injection eo10 with ea_ en_ ec_; (first | subst ea_ | (injection ea_ with ea_; subst ea_)); subst ec_; clear en_)); have GB10 := Aside0.mk gb10; have GG10 := Aside0.mk HG10; clear gb10 gl10 HG10; obtain ⟨ce10, hcl10, hM10, hcc10, hfr10⟩ := Kd.R_elem HO_3.out z83 (x4_1 : Int) p10 q10; obtain rfl := k83_openM hM10; have hx10_0 : w11.cell? ⟨go10, (x4_1 : Int).toNat * 6, none⟩ = some (.string ((rd_T83 x3_1 x4_1).f0.f0)) := hcc10 0 _ rfl; have hx10_1 : w11.cell? ⟨go10, (x4_1 : Int).toNat * 6 + 1, none⟩ = some (.int .i64 ((rd_T83 x3_1 x4_1).f0.f1)) := hcc10 1 _ rfl; have hx10_2 : w11.cell? ⟨go10, (x4_1 : Int).toNat * 6 + 2, none⟩ = some (.int .i64 ((rd_T83 x3_1 x4_1).f0.f2)) := hcc10 2 _ rfl; have hx10_3 : w11.cell? ⟨go10, (x4_1 : Int).toNat * 6 + 3, none⟩ = some (.string ((rd_T83 x3_1 x4_1).f0.f3)) := hcc10 3 _ rfl; have hx10_4 : w11.cell? ⟨go10, (x4_1 : Int).toNat * 6 + 4, none⟩ = some (.int .i64 ((rd_T83 x3_1 x4_1).f0.f4)) := hcc10 4 _ rfl; have hx10_5 : w11.cell? ⟨go10, (x4_1 : Int).toNat * 6 + 5, none⟩ = some (.int .i64 ((rd_T83 x3_1 x4_1).f1)) := hcc10 5 _ rfl; have hf10_0 : w11.frozen? ⟨go10, (x4_1 : Int).toNat * 6, none⟩ = false := hfr10 0; have hf10_1 : w11.frozen? ⟨go10, (x4_1 : Int).toNat * 6 + 1, none⟩ = false := hfr10 1; have hf10_2 : w11.frozen? ⟨go10, (x4_1 : Int).toNat * 6 + 2, none⟩ = false := hfr10 2; have hf10_3 : w11.frozen? ⟨go10, (x4_1 : Int).toNat * 6 + 3, none⟩ = false := hfr10 3; have hf10_4 : w11.frozen? ⟨go10, (x4_1 : Int).toNat * 6 + 4, none⟩ = false := hfr10 4; have hf10_5 : w11.frozen? ⟨go10, (x4_1 : Int).toNat * 6 + 5, none⟩ = false := hfr10 5; clear hcl10 hcc10 hfr10 hM10; replace p10 := eq_true p10; replace q10 := eq_true q10; have HX12 := Aside0.mk (show Kd.R k83 83 w11 w.heap.size (fun _ => True) (.slice (some ⟨go10, 0, none⟩) x3_1.length co10) x3_1 from (z_34)); obtain ⟨ce12, hcl12, hM12, hcc12, hfr12⟩ := Kd.R_elem HX12.out z83 (x4_1 : Int) (of_decide_eq_true (z_10)) (z_35); obtain rfl := k83_openM hM12; have HP12 := Kd.R_seg HX12.out (x4_1 : Int) (of_decide_eq_true (z_10)) (z_35) (seg := [.string t133, .int .i64 t134, .int .i64 t135, .string t136, .int .i64 t137, .int .i64 t138]) (j := 0) hcl12 hcc12 (show 6 ≤ 6 from z_33) (x' := (⟨(⟨t133, t134, t135, t136, t137⟩ : S26), t138⟩ : S83)) (k83_mkM _ _ _ (⟨(⟨t133, t134, t135, t136, t137⟩ : S26), t138⟩ : S83) ) (fun _ hk => hk); have hx12_0 := hcc12 0 _ rfl; (try simp only [show (k83).sz = 6 from rfl, Nat.mul_one, Nat.add_zero] at hx12_0); have hf12_0 := hfr12 0; (try simp only [show (k83).sz = 6 from rfl, Nat.mul_one, Nat.add_zero] at hf12_0); have hx12_1 := hcc12 1 _ rfl; (try simp only [show (k83).sz = 6 from rfl, Nat.mul_one, Nat.add_zero] at hx12_1); have hf12_1 := hfr12 1; (try simp only [show (k83).sz = 6 from rfl, Nat.mul_one, Nat.add_zero] at hf12_1); have hx12_2 := hcc12 2 _ rfl; (try simp only [show (k83).sz = 6 from rfl, Nat.mul_one, Nat.add_zero] at hx12_2); have hf12_2 := hfr12 2; (try simp only [show (k83).sz = 6 from rfl, Nat.mul_one, Nat.add_zero] at hf12_2); have hx12_3 := hcc12 3 _ rfl; (try simp only [show (k83).sz = 6 from rfl, Nat.mul_one, Nat.add_zero] at hx12_3); have hf12_3 := hfr12 3; (try simp only [show (k83).sz = 6 from rfl, Nat.mul_one, Nat.add_zero] at hf12_3); have hx12_4 := hcc12 4 _ rfl; (try simp only [show (k83).sz = 6 from rfl, Nat.mul_one, Nat.add_zero] at hx12_4); have hf12_4 := hfr12 4; (try simp only [show (k83).sz = 6 from rfl, Nat.mul_one, Nat.add_zero] at hf12_4); have hx12_5 := hcc12 5 _ rfl; (try simp only [show (k83).sz = 6 from rfl, Nat.mul_one, Nat.add_zero] at hx12_5); have hf12_5 := hfr12 5; (try simp only [show (k83).sz = 6 from rfl, Nat.mul_one, Nat.add_zero] at hf12_5); clear hcl12 hcc12 hfr12 hM12) | ((with_reducible refine gate_store (t := 83) (p := 21) rfl ?_); refine store_event (t := 83) (p := 21) (v := ?vo_w13) (w1 := ((((((w11.setCell ⟨go10, (x4_1 : Int).toNat * 6, none⟩ (.string t133)).setCell ⟨go10, (x4_1 : Int).toNat * 6 + 1, none⟩ (.int .i64 t134)).setCell ⟨go10, (x4_1 : Int).toNat * 6 + 2, none⟩ (.int .i64 t135)).setCell ⟨go10, (x4_1 : Int).toNat * 6 + 3, none⟩ (.string t136)).setCell ⟨go10, (x4_1 : Int).toNat * 6 + 4, none⟩ (.int .i64 t137)).setCell ⟨go10, (x4_1 : Int).toNat * 6 + 5, none⟩ (.int .i64 t138))) ?hg ?ho ?hn ?hr ?_; (case ho => rfl); (case hg => rfl); (case hn => rfl); (case hr => exact z_1); intro w13 hw; have hg : w11.grownBy w13 (some go10) := (by rw [hw]; exact HP12.2); have hp_ : Kd.R k83 83 w13 w.heap.size (fun _ => True) (.slice (some ⟨go10, 0, none⟩) x3_1.length co10) y139 := (by rw [hw, Ny139.out]; exact HP12.1); clear HP12; have n0_ := Aside0.mk (hp_); have n1_ := Aside0.mk ((by rw [hw]; exact below_set (below_set (below_set (below_set (below_set (below_set (HB.out) GB10.out) GB10.out) GB10.out) GB10.out) GB10.out) GB10.out : Below w.heap.size w w13)); clear HO_3; clear HB; have HO_3 := n0_; have HB := n1_; clear n0_ n1_; clear hg hw hp_))
                go_roundg k1
                case measure => have := HK1.out; omega
                case rel => exact ⟨(y139), (wrap64 (x4_1 + 1)), (z_9), H', ⟨z_11⟩, ⟨z_34⟩, ⟨z_2⟩⟩
              · rw [if_neg c9] at H
                exact absurd H (by simp)
            · rw [if_neg c7] at H
              exact absurd H (by simp)
          · rw [if_neg c6] at H
            have c6b0 : decide (x4_1 < (l0.length : Int)) = false := decide_eq_false c6
            clear c6
            obtain rfl := Option.some.inj H
            go_wp2
            go_ret
            exact ⟨_, z_4, z_34, z_2⟩
    · rw [if_neg c3] at H
      exact absurd H (by simp)
  · rw [if_neg c2] at H
    exact absurd H (by simp)

/-! ### impl_in: function 57 -/
def impl_in.f (a0 : Int) (a1 : Int) (a2 : Int) : Option (Bool) := if a0 ≥ a1 then (some (decide (a0 ≤ a2))) else (some false)
set_option maxHeartbeats 8000000 in
set_option maxRecDepth 100000 in
theorem impl_in.calls (a0 : Int) (a1 : Int) (a2 : Int) (r : Bool) (w : World) (h : impl_in.f a0 a1 a2 = some r) :
    Calls Try.prog 57 #[.int .i64 a0, .int .i64 a1, .int .i64 a2] w fun e w' => e = .returned (.bool r) ∧ Drawn0 w w' := by
  have H : (if a0 ≥ a1 then (some (decide (a0 ≤ a2))) else (some false)) = some r := h
  clear h
  by_cases c4 : a0 ≥ a1
  · rw [if_pos c4] at H
    have c4b0 : decide (a1 ≤ a0) = true := decide_eq_true c4
    clear c4
    obtain rfl := Option.some.inj H
    go_enter Try.func57, Try.ntmps57
    go_wp2
    go_ret
    exact ⟨z_9, z_12⟩
  · rw [if_neg c4] at H
    have c4b0 : decide (a1 ≤ a0) = false := decide_eq_false c4
    clear c4
    obtain rfl := Option.some.inj H
    go_enter Try.func57, Try.ntmps57
    go_wp2
    go_ret
    exact ⟨z_9, z_12⟩

/-! ### impl_textOk: function 56 -/
def impl_textOk.l0 : Nat → ByteArray → List Int → Int → Int → Option (Bool)
  | 0, _, _, _, _ => none
  | k + 1, x0, x6, x7, x8 => if x8 < x7 then (if 0 ≤ x8 then (if x8 < (x6.length : Int) then (if (rd x6 x8) < 97 then (some false) else (if (rd x6 x8) > 122 then (some false) else (impl_textOk.l0 k x0 x6 x7 (wrap64 (x8 + 1))))) else (none)) else (none)) else ((impl_in.f (x0.size : Int) 1 12).bind fun t147 => (some t147))
def impl_textOk.f (k : Nat) (a0 : ByteArray) : Option (Bool) := (some (([] : List Int) : List Int)).bind fun y140 => (if y140.length + a0.size < 140737488355328 then ((some (y140 ++ bytesOf a0 : List Int)).bind fun y143 => (impl_textOk.l0 k a0 y143 (y143.length : Int) 0)) else (none))
theorem impl_textOk.mono_l : ∀ k, (∀ y0 y1 y2 y3, LeO (impl_textOk.l0 k y0 y1 y2 y3) (impl_textOk.l0 (k + 1) y0 y1 y2 y3))
  | 0 => fun _ _ _ _ r h => by simp [impl_textOk.l0] at h
  | k + 1 => by
    have ih0 := impl_textOk.mono_l k
    · intro y0 y1 y2 y3
      unfold impl_textOk.l0
      repeat' first
      | (with_reducible exact ih0 _ _ _ _)
      | (with_reducible exact LeO.refl _)
      | (with_reducible exact LeO.none _)
      | (with_reducible refine LeO.ite ?_ ?_)
      | (with_reducible refine LeO.bind ?_ (fun _ => ?_))
      | exact ih0 _ _ _ _
      | exact LeO.none _
      | refine LeO.ite ?_ ?_
      | refine LeO.bind ?_ (fun _ => ?_)
theorem impl_textOk.mono : ∀ a0 k, LeO (impl_textOk.f k a0) (impl_textOk.f (k + 1) a0) := by
  intro a0 k
  have ih0 := impl_textOk.mono_l k
  unfold impl_textOk.f
  repeat' first
      | (with_reducible exact ih0 _ _ _ _)
      | (with_reducible exact LeO.refl _)
      | (with_reducible exact LeO.none _)
      | (with_reducible refine LeO.ite ?_ ?_)
      | (with_reducible refine LeO.bind ?_ (fun _ => ?_))
      | exact ih0 _ _ _ _
      | exact LeO.none _
      | refine LeO.ite ?_ ?_
      | refine LeO.bind ?_ (fun _ => ?_)
set_option maxHeartbeats 8000000 in
set_option maxRecDepth 100000 in
theorem impl_textOk.calls (k : Nat) (a0 : ByteArray) (r : Bool) (w : World) (h : impl_textOk.f k a0 = some r) :
    Calls Try.prog 56 #[.string a0] w fun e w' => e = .returned (.bool r) ∧ Below w.heap.size w w' := by
  have HB := Aside0.mk (Below.refl w.heap.size w)
  have H : ((some (([] : List Int) : List Int)).bind fun y140 => (if y140.length + a0.size < 140737488355328 then ((some (y140 ++ bytesOf a0 : List Int)).bind fun y143 => (impl_textOk.l0 k a0 y143 (y143.length : Int) 0)) else (none))) = some r := h
  clear h
  obtain ⟨y140, hy140⟩ : ∃ y_ : List Int, y_ = (([] : List Int)) := ⟨_, rfl⟩
  replace H : (if y140.length + a0.size < 140737488355328 then ((some (y140 ++ bytesOf a0 : List Int)).bind fun y143 => (impl_textOk.l0 k a0 y143 (y143.length : Int) 0)) else (none)) = some r := by first | (rw [hy140]; with_reducible exact H) | (have H2_ := (Option.bind_some _ _).symm.trans H; rw [hy140]; with_reducible exact H2_) | (have H2_ := (Option.bind_some _ _).symm.trans H; with_reducible exact H2_) | with_reducible exact H | (rw [hy140]; exact H) | exact H
  have Ny140 := Aside0.mk hy140
  clear hy140
  by_cases c2 : y140.length + a0.size < 140737488355328
  · rw [if_pos c2] at H
    have LMc2 := Aside0.mk c2
    clear c2
    obtain ⟨y143, hy143⟩ : ∃ y_ : List Int, y_ = (y140 ++ bytesOf a0) := ⟨_, rfl⟩
    replace H : (impl_textOk.l0 k a0 y143 (y143.length : Int) 0) = some r := by first | (rw [hy143]; with_reducible exact H) | (have H2_ := (Option.bind_some _ _).symm.trans H; rw [hy143]; with_reducible exact H2_) | (have H2_ := (Option.bind_some _ _).symm.trans H; with_reducible exact H2_) | with_reducible exact H | (rw [hy143]; exact H) | exact H
    have Ny143 := Aside0.mk hy143
    clear hy143
    have H' := Aside0.mk H
    clear H
    have Hs_ := Aside0.mk (show y143 = bytesOf a0 by rw [Ny143.out, Ny140.out]; rfl)
    have Hl_ := Aside0.mk (show y143.length = a0.size by rw [Hs_.out]; exact bytesOf_length a0)
    go_enter Try.func56, Try.ntmps56
    go_wp2_with (first | ((with_reducible refine gate_dst (N := 6) rfl ?_); refine Kd.C_of_str' (w0 := w) w.heap.size rfl 9 29 5 (.tmp 5) rfl Try.underlying9 Try.underlying29 Try.underlying5 a0 y143 Hs_.out rfl ?aB ?aS (by have := LMc2.out; omega) ?_; (case aB => exact (z_2)); (case aS => exact (below_size (z_2))); intro Ao6 co6 w5 HCs_ ho hb; clear HB; have HO145 := Aside0.mk ho; have HB := Aside0.mk hb; clear ho hb HCs_))
    go_loopg [8] k (fun kq v8 w' => ∃ (x8_1 : Int), v8 = .int .i64 x8_1 ∧ Aside0 (impl_textOk.l0 kq a0 y143 (y143.length : Int) x8_1 = some r) ∧ Aside0 (kq ≤ k) ∧ Aside0 (Kd.C (Kd.int .u8) w' Ao6 y143.length y143) ∧ Aside0 (Below w.heap.size w w'))
    case atStart => exact ⟨(0), (z_9), H', ⟨Nat.le_refl _⟩, ⟨by repeat (first | exact HO145.out | (with_reducible refine Kd.C_alloc ?_ _) | (with_reducible refine Kd.C_drewN ?_ _) | (with_reducible refine Kd.C_drew ?_))⟩, ⟨z_2⟩⟩
    case round =>
      clear H'
      try clear c2
      try clear p2
      try clear c5
      obtain ⟨x8_1, rfl, HA, HK1, HO_6, HB⟩ := hrel
      cases gk with
      | zero => exact absurd HA.out (by simp [impl_textOk.l0])
      | succ k1 =>
        have H := HA.out
        clear HA
        simp only [impl_textOk.l0] at H
        by_cases c7 : x8_1 < (y143.length : Int)
        · rw [if_pos c7] at H
          have c7b0 : decide (x8_1 < (y143.length : Int)) = true := decide_eq_true c7
          clear c7
          by_cases c8 : 0 ≤ x8_1
          · rw [if_pos c8] at H
            have c8b0 : decide (0 ≤ x8_1) = true := decide_eq_true c8
            clear c8
            by_cases c9 : x8_1 < (y143.length : Int)
            · rw [if_pos c9] at H
              have c9b0 : decide (x8_1 < (y143.length : Int)) = true := decide_eq_true c9
              clear c9
              by_cases c10 : (rd y143 x8_1) < 97
              · rw [if_pos c10] at H
                have c10b0 : decide ((rd y143 x8_1) < 97) = true := decide_eq_true c10
                clear c10
                obtain rfl := Option.some.inj H
                have p146 : 0 ≤ (x8_1 : Int) := of_decide_eq_true (z_10)
                have q146 : x8_1 < (y143.length : Int) := of_decide_eq_true (z_10)
                obtain ⟨ad146, e146, hx146_0⟩ := Kd.at_int HO_6.out x8_1 p146 q146
                cases e146
                replace p146 := eq_true p146
                replace q146 := eq_true q146
                go_wp2
                go_ret
                exact ⟨z_4, z_2⟩
              · rw [if_neg c10] at H
                have c10b0 : decide ((rd y143 x8_1) < 97) = false := decide_eq_false c10
                clear c10
                by_cases c11 : (rd y143 x8_1) > 122
                · rw [if_pos c11] at H
                  have c11b0 : decide (122 < (rd y143 x8_1)) = true := decide_eq_true c11
                  clear c11
                  obtain rfl := Option.some.inj H
                  have p146 : 0 ≤ (x8_1 : Int) := of_decide_eq_true (z_10)
                  have q146 : x8_1 < (y143.length : Int) := of_decide_eq_true (z_10)
                  obtain ⟨ad146, e146, hx146_0⟩ := Kd.at_int HO_6.out x8_1 p146 q146
                  cases e146
                  replace p146 := eq_true p146
                  replace q146 := eq_true q146
                  go_wp2
                  go_ret
                  exact ⟨z_4, z_2⟩
                · rw [if_neg c11] at H
                  have c11b0 : decide (122 < (rd y143 x8_1)) = false := decide_eq_false c11
                  clear c11
                  have H' := Aside0.mk H
                  clear H
                  have p146 : 0 ≤ (x8_1 : Int) := of_decide_eq_true (z_10)
                  have q146 : x8_1 < (y143.length : Int) := of_decide_eq_true (z_10)
                  obtain ⟨ad146, e146, hx146_0⟩ := Kd.at_int HO_6.out x8_1 p146 q146
                  cases e146
                  replace p146 := eq_true p146
                  replace q146 := eq_true q146
                  go_wp2
                  go_roundg k1
                  case measure => have := HK1.out; omega
                  case rel => exact ⟨(wrap64 (x8_1 + 1)), (z_9), H', ⟨z_11⟩, ⟨by repeat (first | exact HO_6.out | (with_reducible refine Kd.C_alloc ?_ _) | (with_reducible refine Kd.C_drewN ?_ _) | (with_reducible refine Kd.C_drew ?_))⟩, ⟨z_2⟩⟩
            · rw [if_neg c9] at H
              exact absurd H (by simp)
          · rw [if_neg c8] at H
            exact absurd H (by simp)
        · rw [if_neg c7] at H
          have c7b0 : decide (x8_1 < (y143.length : Int)) = false := decide_eq_false c7
          clear c7
          replace H := Option.bind_eq_some_iff.mp H
          obtain ⟨t147, A120, H⟩ := H
          have A12 := Aside0.mk A120
          clear A120
          obtain rfl := Option.some.inj H
          go_wp2_with (first | ((with_reducible refine gate_callee (f := 57) rfl ?_); refine goesL_ (some 21) rfl rfl Try.func57 (z_0) rfl #[.int .i64 (a0.size : Int), .int .i64 1, .int .i64 12] rfl (z_6) ?_; (with_reducible refine (impl_in.calls (a0.size : Int) 1 12 t147 _ A12.out).mono ?_); rintro e w' ⟨rfl, ⟨nd, rfl⟩⟩; refine ⟨_, rfl, ?_⟩))
          go_ret
          exact ⟨z_4, z_2⟩
  · rw [if_neg c2] at H
    exact absurd H (by simp)

/-! ### impl_word: function 58 -/
def impl_word.f (a0 : Int) : Option (Bool) := (impl_in.f a0 0 65535).bind fun t148 => (some t148)
set_option maxHeartbeats 8000000 in
set_option maxRecDepth 100000 in
theorem impl_word.calls (a0 : Int) (r : Bool) (w : World) (h : impl_word.f a0 = some r) :
    Calls Try.prog 58 #[.int .i64 a0] w fun e w' => e = .returned (.bool r) ∧ Drawn0 w w' := by
  have H : ((impl_in.f a0 0 65535).bind fun t148 => (some t148)) = some r := h
  clear h
  replace H := Option.bind_eq_some_iff.mp H
  obtain ⟨t148, A20, H⟩ := H
  have A2 := Aside0.mk A20
  clear A20
  obtain rfl := Option.some.inj H
  go_enter Try.func58, Try.ntmps58
  go_wp2_with (first | ((with_reducible refine gate_callee (f := 57) rfl ?_); refine goesL_ (some 4) rfl rfl Try.func57 (z_0) rfl #[.int .i64 a0, .int .i64 0, .int .i64 65535] rfl (z_6) ?_; (with_reducible refine (impl_in.calls a0 0 65535 t148 _ A2.out).mono ?_); rintro e w' ⟨rfl, ⟨nd, rfl⟩⟩; refine ⟨_, rfl, ?_⟩))
  go_ret
  exact ⟨z_9, z_12⟩

end Go.Proofs.Ytmgnmgobibpjjaa.GFnExactKeptOk
