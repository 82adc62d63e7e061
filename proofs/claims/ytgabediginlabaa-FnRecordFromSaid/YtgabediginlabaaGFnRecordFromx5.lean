/- What the Go functions that FnRecordFrom reaches come to, walked step by step; there is no condition beyond those each statement names. -/
import Derived.Test.YtgabediginlabaaGFnRecordFromx0
import Derived.Test.YtgabediginlabaaGFnRecordFromx1
import Derived.Test.YtgabediginlabaaGFnRecordFromx2
import Derived.Test.YtgabediginlabaaGFnRecordFromx3
import Derived.Test.YtgabediginlabaaGFnRecordFromx4
namespace Go.Proofs.Ytgabediginlabaa.GFnRecordFrom
open Go.RowKit Go.Proofs.YtgabediginlabaaU.PrintWords Go.Proofs.YtgabediginlabaaU.PrintLast Go.Proofs.YtgabediginlabaaU.PrintMore
attribute [local go_sem] max2_int min2_int max_two min_two max_three min_three max_four min_four   -- for this text's walks alone
set_option linter.unusedVariables false
set_option linter.unusedSimpArgs false

/-! ### laws_FnRecordFrom: function 10 -/
mutual
def laws_FnRecordFrom.j0 : Nat → Int → Int → List Int → List Int → Bool → Int → Bool → Option (Bool)
  | 0, _, _, _, _, _, _, _ => none
  | k + 1, x3, x4, x5, x6, x7, x8, x54 => if x54 = true then (some false) else (if x8 < 1 then (if (x6.length : Int) = 0 then (if x7 = true then (some false) else ((laws_alive.f k).bind fun t321 => (some t321))) else (some false)) else (laws_FnRecordFrom.l0 k x3 x4 x5 x6 x7 x8 0))
def laws_FnRecordFrom.l0 : Nat → Int → Int → List Int → List Int → Bool → Int → Int → Option (Bool)
  | 0, _, _, _, _, _, _, _ => none
  | k + 1, x3, x4, x5, x6, x7, x8, x12 => if x12 < x8 then ((some (([] : List Int) : List Int)).bind fun y322 => (if 0 ≤ x12 then (if x12 ≤ (x5.length : Int) then ((some (x5.take (x12 : Int).toNat : List Int)).bind fun y325 => (if y322.length + y325.length < 140737488355328 then ((impl_RecordFrom.f k x3 x4 (y322 ++ y325)).bind fun bt332 => (if bt332.2.2 = 0 then (laws_FnRecordFrom.l0 k x3 x4 x5 x6 x7 x8 (wrap64 (x12 + 1))) else (some false))) else (none))) else (none)) else (none))) else ((impl_RecordBytes.f k x3 x4 x6 x7).bind fun t337 => (if 0 ≤ x8 then (if x8 ≤ (x5.length : Int) then ((laws_sameBytes.f t337 (x5.take (x8 : Int).toNat)).bind fun t344 => (some t344)) else (none)) else (none)))
end
def laws_FnRecordFrom.f (k : Nat) (l0 : List Int) : Option (Bool) := if (l0.length : Int) > 1048576 then (some true) else ((spec_DrawRecordFrom.f k l0).bind fun bt305 => ((impl_RecordFrom.f k bt305.1 bt305.2.1 bt305.2.2).bind fun bt310 => ((spec_RecordFrom.f k bt305.1 bt305.2.1 bt305.2.2).bind fun bt315 => (if bt310.2.2 = bt315.2.2 then (if (bt310.2.1 != bt315.2.1) = true then (laws_FnRecordFrom.j0 k bt305.1 bt305.2.1 bt305.2.2 bt310.1 bt310.2.1 bt310.2.2 true) else ((laws_sameBytes.f bt310.1 bt315.1).bind fun t320 => (laws_FnRecordFrom.j0 k bt305.1 bt305.2.1 bt305.2.2 bt310.1 bt310.2.1 bt310.2.2 (!t320)))) else (laws_FnRecordFrom.j0 k bt305.1 bt305.2.1 bt305.2.2 bt310.1 bt310.2.1 bt310.2.2 true)))))
theorem laws_FnRecordFrom.mono_l : ∀ k, (∀ y0 y1 y2 y3 y4 y5 y6, LeO (laws_FnRecordFrom.j0 k y0 y1 y2 y3 y4 y5 y6) (laws_FnRecordFrom.j0 (k + 1) y0 y1 y2 y3 y4 y5 y6)) ∧ (∀ y0 y1 y2 y3 y4 y5 y6, LeO (laws_FnRecordFrom.l0 k y0 y1 y2 y3 y4 y5 y6) (laws_FnRecordFrom.l0 (k + 1) y0 y1 y2 y3 y4 y5 y6))
  | 0 => ⟨fun _ _ _ _ _ _ _ r h => by simp [laws_FnRecordFrom.j0] at h, fun _ _ _ _ _ _ _ r h => by simp [laws_FnRecordFrom.l0] at h⟩
  | k + 1 => by
    obtain ⟨ih0, ih1⟩ := laws_FnRecordFrom.mono_l k
    refine ⟨?_, ?_⟩
    · intro y0 y1 y2 y3 y4 y5 y6
      unfold laws_FnRecordFrom.j0
      repeat' first
      | (with_reducible exact ih0 _ _ _ _ _ _ _)
      | (with_reducible exact ih1 _ _ _ _ _ _ _)
      | (with_reducible exact impl_RecordBytes.mono _ _ _ _ _)
      | (with_reducible exact impl_RecordFrom.mono _ _ _ _)
      | (with_reducible exact laws_alive.mono _)
      | (with_reducible exact spec_DrawRecordFrom.mono _ _)
      | (with_reducible exact spec_RecordFrom.mono _ _ _ _)
      | (with_reducible exact LeO.refl _)
      | (with_reducible exact LeO.none _)
      | (with_reducible refine LeO.ite ?_ ?_)
      | (with_reducible refine LeO.bind ?_ (fun _ => ?_))
      | exact ih0 _ _ _ _ _ _ _
      | exact ih1 _ _ _ _ _ _ _
      | exact impl_RecordBytes.mono _ _ _ _ _
      | exact impl_RecordFrom.mono _ _ _ _
      | exact laws_alive.mono _
      | exact spec_DrawRecordFrom.mono _ _
      | exact spec_RecordFrom.mono _ _ _ _
      | exact LeO.none _
      | refine LeO.ite ?_ ?_
      | refine LeO.bind ?_ (fun _ => ?_)
    · intro y0 y1 y2 y3 y4 y5 y6
      unfold laws_FnRecordFrom.l0
      repeat' first
      | (with_reducible exact ih0 _ _ _ _ _ _ _)
      | (with_reducible exact ih1 _ _ _ _ _ _ _)
      | (with_reducible exact impl_RecordBytes.mono _ _ _ _ _)
      | (with_reducible exact impl_RecordFrom.mono _ _ _ _)
      | (with_reducible exact laws_alive.mono _)
      | (with_reducible exact spec_DrawRecordFrom.mono _ _)
      | (with_reducible exact spec_RecordFrom.mono _ _ _ _)
      | (with_reducible exact LeO.refl _)
      | (with_reducible exact LeO.none _)
      | (with_reducible refine LeO.ite ?_ ?_)
      | (with_reducible refine LeO.bind ?_ (fun _ => ?_))
      | exact ih0 _ _ _ _ _ _ _
      | exact ih1 _ _ _ _ _ _ _
      | exact impl_RecordBytes.mono _ _ _ _ _
      | exact impl_RecordFrom.mono _ _ _ _
      | exact laws_alive.mono _
      | exact spec_DrawRecordFrom.mono _ _
      | exact spec_RecordFrom.mono _ _ _ _
      | exact LeO.none _
      | refine LeO.ite ?_ ?_
      | refine LeO.bind ?_ (fun _ => ?_)
theorem laws_FnRecordFrom.mono : ∀ a0 k, LeO (laws_FnRecordFrom.f k a0) (laws_FnRecordFrom.f (k + 1) a0) := by
  intro a0 k
  obtain ⟨ih0, ih1⟩ := laws_FnRecordFrom.mono_l k
  unfold laws_FnRecordFrom.f
  repeat' first
      | (with_reducible exact ih0 _ _ _ _ _ _ _)
      | (with_reducible exact ih1 _ _ _ _ _ _ _)
      | (with_reducible exact impl_RecordBytes.mono _ _ _ _ _)
      | (with_reducible exact impl_RecordFrom.mono _ _ _ _)
      | (with_reducible exact laws_alive.mono _)
      | (with_reducible exact spec_DrawRecordFrom.mono _ _)
      | (with_reducible exact spec_RecordFrom.mono _ _ _ _)
      | (with_reducible exact LeO.refl _)
      | (with_reducible exact LeO.none _)
      | (with_reducible refine LeO.ite ?_ ?_)
      | (with_reducible refine LeO.bind ?_ (fun _ => ?_))
      | exact ih0 _ _ _ _ _ _ _
      | exact ih1 _ _ _ _ _ _ _
      | exact impl_RecordBytes.mono _ _ _ _ _
      | exact impl_RecordFrom.mono _ _ _ _
      | exact laws_alive.mono _
      | exact spec_DrawRecordFrom.mono _ _
      | exact spec_RecordFrom.mono _ _ _ _
      | exact LeO.none _
      | refine LeO.ite ?_ ?_
      | refine LeO.bind ?_ (fun _ => ?_)
def laws_FnRecordFrom.T16 : Bool × List (List Nat × List Nat) := (true, [([], []), ([], []), ([], []), ([], []), ([0, 1, 2, 3], [0, 1, 2, 3]), ([], []), ([], []), ([5, 6], [5, 6]), ([4, 7, 4], [4, 7]), ([8, 8, 0, 1, 2, 3, 4, 5, 6, 7, 8], [8])])
def laws_FnRecordFrom.B16 : List Nat := [0, 0, 0, 0, 15, 0, 0, 96, 255, 511]
theorem laws_FnRecordFrom.tab16 : rtab .any (opsOf Try.f10 16) = laws_FnRecordFrom.T16 := by kernel_rfl
theorem laws_FnRecordFrom.bits16 : waitsOk laws_FnRecordFrom.T16.2 laws_FnRecordFrom.B16 = true := by kernel_rfl
set_option maxHeartbeats 8000000 in
set_option maxRecDepth 100000 in
theorem laws_FnRecordFrom.calls (k : Nat) (A0 : Option Addr) (c0 : Nat) (l0 : List Int) (r : Bool) (w : World) (hr0 : Kd.C (Kd.int .u8) w A0 l0.length l0) (hc0 : l0.length ≤ c0) (h : laws_FnRecordFrom.f k l0 = some r) :
    Calls Try.prog 10 #[.slice A0 l0.length c0] w fun e w' => e = .returned (.bool r) ∧ Below w.heap.size w w' := by
  have HR0 := Aside0.mk hr0
  have HC0 := Aside0.mk hc0
  clear hr0 hc0
  have HB := Aside0.mk (Below.refl w.heap.size w)
  have H : (if (l0.length : Int) > 1048576 then (some true) else ((spec_DrawRecordFrom.f k l0).bind fun bt305 => ((impl_RecordFrom.f k bt305.1 bt305.2.1 bt305.2.2).bind fun bt310 => ((spec_RecordFrom.f k bt305.1 bt305.2.1 bt305.2.2).bind fun bt315 => (if bt310.2.2 = bt315.2.2 then (if (bt310.2.1 != bt315.2.1) = true then (laws_FnRecordFrom.j0 k bt305.1 bt305.2.1 bt305.2.2 bt310.1 bt310.2.1 bt310.2.2 true) else ((laws_sameBytes.f bt310.1 bt315.1).bind fun t320 => (laws_FnRecordFrom.j0 k bt305.1 bt305.2.1 bt305.2.2 bt310.1 bt310.2.1 bt310.2.2 (!t320)))) else (laws_FnRecordFrom.j0 k bt305.1 bt305.2.1 bt305.2.2 bt310.1 bt310.2.1 bt310.2.2 true)))))) = some r := h
  clear h
  by_cases c2 : (l0.length : Int) > 1048576
  · rw [if_pos c2] at H
    have c2b0 : decide (1048576 < (l0.length : Int)) = true := decide_eq_true c2
    have c2b1 : decide (1048576 < l0.length) = true := decide_eq_true (by omega)
    clear c2
    obtain rfl := Option.some.inj H
    go_enter Try.func10, Try.ntmps10
    go_wp2
    go_ret
    exact ⟨by first | rfl | (simp [errW_none, errW_some] <;> rfl) | (simp [*, errW_none, errW_some] <;> rfl), by repeat (first | (with_reducible first | exact HB.out | apply below_alloc | apply pw_below_drewN | apply below_drew1) | exact HB.out)⟩
  · rw [if_neg c2] at H
    have c2b0 : decide (1048576 < (l0.length : Int)) = false := decide_eq_false c2
    have c2b1 : decide (1048576 < l0.length) = false := decide_eq_false (by omega)
    clear c2
    replace H := Option.bind_eq_some_iff.mp H
    obtain ⟨⟨t305, t306, t307⟩, A30, H⟩ := H
    replace H : ((impl_RecordFrom.f k t305 t306 t307).bind fun bt310 => ((spec_RecordFrom.f k t305 t306 t307).bind fun bt315 => (if bt310.2.2 = bt315.2.2 then (if (bt310.2.1 != bt315.2.1) = true then (laws_FnRecordFrom.j0 k t305 t306 t307 bt310.1 bt310.2.1 bt310.2.2 true) else ((laws_sameBytes.f bt310.1 bt315.1).bind fun t320 => (laws_FnRecordFrom.j0 k t305 t306 t307 bt310.1 bt310.2.1 bt310.2.2 (!t320)))) else (laws_FnRecordFrom.j0 k t305 t306 t307 bt310.1 bt310.2.1 bt310.2.2 true)))) = some r := H
    have A3 := Aside0.mk A30
    clear A30
    replace H := Option.bind_eq_some_iff.mp H
    obtain ⟨⟨t310, t311, t312⟩, A40, H⟩ := H
    replace H : ((spec_RecordFrom.f k t305 t306 t307).bind fun bt315 => (if t312 = bt315.2.2 then (if (t311 != bt315.2.1) = true then (laws_FnRecordFrom.j0 k t305 t306 t307 t310 t311 t312 true) else ((laws_sameBytes.f t310 bt315.1).bind fun t320 => (laws_FnRecordFrom.j0 k t305 t306 t307 t310 t311 t312 (!t320)))) else (laws_FnRecordFrom.j0 k t305 t306 t307 t310 t311 t312 true))) = some r := H
    have A4 := Aside0.mk A40
    clear A40
    replace H := Option.bind_eq_some_iff.mp H
    obtain ⟨⟨t315, t316, t317⟩, A50, H⟩ := H
    replace H : (if t312 = t317 then (if (t311 != t316) = true then (laws_FnRecordFrom.j0 k t305 t306 t307 t310 t311 t312 true) else ((laws_sameBytes.f t310 t315).bind fun t320 => (laws_FnRecordFrom.j0 k t305 t306 t307 t310 t311 t312 (!t320)))) else (laws_FnRecordFrom.j0 k t305 t306 t307 t310 t311 t312 true)) = some r := H
    have A5 := Aside0.mk A50
    clear A50
    have HC6 := Aside0.mk H
    clear H
    go_enter Try.func10, Try.ntmps10
    go_upto_region 6 with (first | ((with_reducible refine gate_callee (f := 33) rfl ?_); refine goesL_ (some 21) rfl rfl Try.func33 (by kernel_rfl) rfl #[.slice A0 l0.length c0] rfl (by (try simp only [List.map_toArray, List.map_cons, List.map_nil]); first | done | rfl | (simp only [List.length_drop, List.length_take]; rfl)) ?_; (with_reducible refine (spec_DrawRecordFrom.calls k _ _ l0 t305 t306 t307 _ ?side1 ?side2 A3.out).mono ?_); (case side1 => repeat (first | exact HR0.out | (with_reducible refine Kd.C_alloc ?_ _) | (with_reducible refine Kd.C_drewN ?_ _) | (with_reducible refine Kd.C_drew ?_))); (case side2 => exact HC0.out); rintro e w7 ⟨v308, rfl, ho0, hb⟩; refine ⟨_, rfl, ?_⟩; have n0_ := Aside0.mk (Kd.R_lower ho0 (below_size (by repeat (first | (with_reducible first | exact HB.out | apply below_alloc | apply pw_below_drewN | apply below_drew1) | exact HB.out)))); have n1_ := Aside0.mk (below_step (by repeat (first | (with_reducible first | exact HB.out | apply below_alloc | apply pw_below_drewN | apply below_drew1) | exact HB.out)) hb); clear HB; have HO309 := n0_; have HB := n1_; clear n0_ n1_; (try clear hb); (try clear hb2); (try clear hk); (try clear hi); (try clear ho0); obtain ⟨Ao8, co8, eo8⟩ := Kd.R_slice HO309.out; subst eo8) | ((with_reducible refine gate_callee (f := 26) rfl ?_); refine goesL_ (some 29) rfl rfl Try.func26 (by kernel_rfl) rfl #[.int .i64 t305, .int .i64 t306, .slice Ao8 t307.length co8] rfl (by (try simp only [List.map_toArray, List.map_cons, List.map_nil]); first | done | rfl | (simp only [List.length_drop, List.length_take]; rfl)) ?_; (with_reducible refine (impl_RecordFrom.calls k t305 t306 _ _ t307 t310 t311 t312 _ ?side1 ?side2 A4.out).mono ?_); (case side1 => repeat (first | exact (Kd.R_reads' HO309.out).2.2 | (with_reducible refine Kd.C_alloc ?_ _) | (with_reducible refine Kd.C_drewN ?_ _) | (with_reducible refine Kd.C_drew ?_))); (case side2 => exact (Kd.R_reads' HO309.out).2.1); rintro e w9 ⟨v313, rfl, ho0, hb⟩; refine ⟨_, rfl, ?_⟩; have n0_ := Aside0.mk (Kd.R_elder' (by (with_reducible repeat (first | apply Kd.R_alloc | apply Kd.R_drewN | apply Kd.R_drew)); exact HO309.out) (Kd.R_base ho0) hb); have n1_ := Aside0.mk (Kd.R_lower (Kd.R_new' ho0 (Kd.R_lt (by (with_reducible repeat (first | apply Kd.R_alloc | apply Kd.R_drewN | apply Kd.R_drew)); exact HO309.out))) (below_size (by repeat (first | (with_reducible first | exact HB.out | apply below_alloc | apply pw_below_drewN | apply below_drew1) | exact HB.out)))); have n2_ := Aside0.mk (below_step (by repeat (first | (with_reducible first | exact HB.out | apply below_alloc | apply pw_below_drewN | apply below_drew1) | exact HB.out)) hb); clear HO309; clear HB; have HO309 := n0_; have HO314 := n1_; have HB := n2_; clear n0_ n1_ n2_; (try clear hb); (try clear hb2); (try clear hk); (try clear hi); (try clear ho0)) | ((with_reducible refine gate_callee (f := 25) rfl ?_); refine goesL_ (some 37) rfl rfl Try.func25 (by kernel_rfl) rfl #[.int .i64 t305, .int .i64 t306, .slice Ao8 t307.length co8] rfl (by (try simp only [List.map_toArray, List.map_cons, List.map_nil]); first | done | rfl | (simp only [List.length_drop, List.length_take]; rfl)) ?_; (with_reducible refine (spec_RecordFrom.calls k t305 t306 _ _ t307 t315 t316 t317 _ ?side1 ?side2 A5.out).mono ?_); (case side1 => repeat (first | exact (Kd.R_reads' HO309.out).2.2 | (with_reducible refine Kd.C_alloc ?_ _) | (with_reducible refine Kd.C_drewN ?_ _) | (with_reducible refine Kd.C_drew ?_))); (case side2 => exact (Kd.R_reads' HO309.out).2.1); rintro e w10 ⟨v318, rfl, ho0, hb⟩; refine ⟨_, rfl, ?_⟩; have n0_ := Aside0.mk (Kd.R_elder' (by (with_reducible repeat (first | apply Kd.R_alloc | apply Kd.R_drewN | apply Kd.R_drew)); exact HO309.out) (Kd.R_base ho0) hb); have n1_ := Aside0.mk (Kd.R_elder' (by (with_reducible repeat (first | apply Kd.R_alloc | apply Kd.R_drewN | apply Kd.R_drew)); exact HO314.out) (Kd.R_base ho0) hb); have n2_ := Aside0.mk (Kd.R_lower (Kd.R_new' (Kd.R_new' ho0 (Kd.R_lt (by (with_reducible repeat (first | apply Kd.R_alloc | apply Kd.R_drewN | apply Kd.R_drew)); exact HO309.out))) (Kd.R_lt (by (with_reducible repeat (first | apply Kd.R_alloc | apply Kd.R_drewN | apply Kd.R_drew)); exact HO314.out))) (below_size (by repeat (first | (with_reducible first | exact HB.out | apply below_alloc | apply pw_below_drewN | apply below_drew1) | exact HB.out)))); have n3_ := Aside0.mk (below_step (by repeat (first | (with_reducible first | exact HB.out | apply below_alloc | apply pw_below_drewN | apply below_drew1) | exact HB.out)) hb); clear HO309; clear HO314; clear HB; have HO309 := n0_; have HO314 := n1_; have HO319 := n2_; have HB := n3_; clear n0_ n1_ n2_ n3_; (try clear hb); (try clear hb2); (try clear hk); (try clear hi); (try clear ho0)))
    (try simp only [Act.put, List.setIfInBounds_toArray, List.set_cons_zero, List.set_cons_succ])
    go_cut [54] (fun v54 wc => ∃ (kq : Nat) (x54_5 : Bool), v54 = .bool x54_5 ∧ Aside0 (laws_FnRecordFrom.j0 kq t305 t306 t307 t310 t311 t312 x54_5 = some r) ∧ Aside0 (kq ≤ k) ∧ Aside0 (Kd.R (Kd.int .u8) 5 wc w.heap.size (fun k_ => some k_ ≠ (v313 : Value).ownBlock) (.slice Ao8 t307.length co8) t307) ∧ Aside0 (Kd.R (Kd.int .u8) 5 wc w.heap.size (fun k_ => some k_ ≠ ((.slice Ao8 t307.length co8) : Value).ownBlock) v313 t310) ∧ Aside0 (Below w.heap.size w wc))
    case first =>
      have H := HC6.out
      clear HC6
      by_cases c11 : t312 = t317
      · rw [if_pos c11] at H
        have c11b0 : (t312 == t317) = true := beq_iff_eq.mpr c11
        have c11b1 : (t312 != t317) = false := bne_eq_false_iff_eq.mpr c11
        clear c11
        (first | rw [c11b0] | (simp only [i64_w, i32_w]; rw [c11b0]) | skip)
        by_cases c12 : (t311 != t316) = true
        · rw [if_pos c12] at H
          have c12b0 : (t311 != t316) = true := c12
          (try (have c12b1 : decide (t311 = t316) = false := by simpa using c12))
          (try (have c12b2 : (t311 == t316) = false := by simpa using c12))
          (try (have c12b3 : ¬ (t311 = t316) := by simpa using c12))
          clear c12
          have H' := Aside0.mk H
          clear H
          go_wp2
          go_meet
          case rel => exact ⟨_, (true), (by first | rfl | (simp; done) | (simp [*]; done)), H', ⟨by first | omega | exact Nat.le_refl _⟩, ⟨by (with_reducible repeat (first | apply Kd.R_alloc | apply Kd.R_drewN | apply Kd.R_drew)); exact Kd.R_mono HO309.out (fun _ hk => hk.1.2)⟩, ⟨by (with_reducible repeat (first | apply Kd.R_alloc | apply Kd.R_drewN | apply Kd.R_drew)); exact Kd.R_mono HO314.out (fun _ hk => hk.1.2)⟩, ⟨by repeat (first | (with_reducible first | exact HB.out | apply below_alloc | apply pw_below_drewN | apply below_drew1) | exact HB.out)⟩⟩
        · rw [if_neg c12] at H
          have c12b0 : (t311 != t316) = false := by simpa using c12
          (try (have c12b1 : decide (t311 = t316) = true := by simpa using c12))
          (try (have c12b2 : (t311 == t316) = true := by simpa using c12))
          clear c12
          replace H := Option.bind_eq_some_iff.mp H
          obtain ⟨t320, A130, H⟩ := H
          replace H : (laws_FnRecordFrom.j0 k t305 t306 t307 t310 t311 t312 (!t320)) = some r := H
          have A13 := Aside0.mk A130
          clear A130
          have H' := Aside0.mk H
          clear H
          obtain ⟨Ao14, co14, eo14⟩ := Kd.R_slice HO314.out
          subst eo14
          obtain ⟨Ao15, co15, eo15⟩ := Kd.R_slice HO319.out
          subst eo15
          go_wp2_with (first | (go_at_call 32; (with_reducible refine (laws_sameBytes.calls _ _ t310 _ _ t315 t320 _ ?side1 ?side2 ?side3 ?side4 A13.out).mono ?_); (case side1 => repeat (first | exact (Kd.R_reads' HO314.out).2.2 | (with_reducible refine Kd.C_alloc ?_ _) | (with_reducible refine Kd.C_drewN ?_ _) | (with_reducible refine Kd.C_drew ?_))); (case side2 => exact (Kd.R_reads' HO314.out).2.1); (case side3 => repeat (first | exact (Kd.R_reads' HO319.out).2.2 | (with_reducible refine Kd.C_alloc ?_ _) | (with_reducible refine Kd.C_drewN ?_ _) | (with_reducible refine Kd.C_drew ?_))); (case side4 => exact (Kd.R_reads' HO319.out).2.1); rintro e w' ⟨rfl, ⟨nd, rfl⟩⟩))
          go_meet
          case rel => exact ⟨_, (!t320), (by first | rfl | (simp; done) | (simp [*]; done)), H', ⟨by first | omega | exact Nat.le_refl _⟩, ⟨by (with_reducible repeat (first | apply Kd.R_alloc | apply Kd.R_drewN | apply Kd.R_drew)); exact Kd.R_mono HO309.out (fun _ hk => hk.1.2)⟩, ⟨by (with_reducible repeat (first | apply Kd.R_alloc | apply Kd.R_drewN | apply Kd.R_drew)); exact Kd.R_mono HO314.out (fun _ hk => hk.1.2)⟩, ⟨by repeat (first | (with_reducible first | exact HB.out | apply below_alloc | apply pw_below_drewN | apply below_drew1) | exact HB.out)⟩⟩
      · rw [if_neg c11] at H
        have c11b0 : (t312 == t317) = false := beq_eq_false_iff_ne.mpr c11
        have c11b1 : (t312 != t317) = true := bne_iff_ne.mpr c11
        (first | rw [c11b0] | (simp only [i64_w, i32_w]; rw [c11b0]) | skip)
        have H' := Aside0.mk H
        clear H
        go_wp2
        go_meet
        case rel => exact ⟨_, (true), (by first | rfl | (simp; done) | (simp [*]; done)), H', ⟨by first | omega | exact Nat.le_refl _⟩, ⟨by (with_reducible repeat (first | apply Kd.R_alloc | apply Kd.R_drewN | apply Kd.R_drew)); exact Kd.R_mono HO309.out (fun _ hk => hk.1.2)⟩, ⟨by (with_reducible repeat (first | apply Kd.R_alloc | apply Kd.R_drewN | apply Kd.R_drew)); exact Kd.R_mono HO314.out (fun _ hk => hk.1.2)⟩, ⟨by repeat (first | (with_reducible first | exact HB.out | apply below_alloc | apply pw_below_drewN | apply below_drew1) | exact HB.out)⟩⟩
    case rest =>
      clear HC6
      try clear c1
      try clear c2
      try clear c2b0
      try clear c2b1
      try clear p2
      try clear c3
      try clear c10
      try clear c11
      try clear c11b0
      try clear c11b1
      try clear c12
      try clear c12b0
      try clear c12b1
      try clear c12b2
      obtain ⟨kq, x54_5, rfl, HA, HJ5, HO_5, HO_6, HB⟩ := hcut
      cases kq with
      | zero => exact absurd HA.out (by simp [laws_FnRecordFrom.j0])
      | succ kj5 =>
        have H := HA.out
        clear HA
        simp only [laws_FnRecordFrom.j0] at H
        by_cases c16 : x54_5 = true
        · subst c16
          have H1 : (some false) = some r := by rw [if_pos rfl] at H; exact H
          clear H
          have H := H1
          clear H1
          obtain rfl := Option.some.inj H
          go_wp2
          go_ret
          exact ⟨by first | rfl | (simp [errW_none, errW_some] <;> rfl) | (simp [*, errW_none, errW_some] <;> rfl), by repeat (first | (with_reducible first | exact HB.out | apply below_alloc | apply pw_below_drewN | apply below_drew1) | exact HB.out)⟩
        · replace c16 := Bool.eq_false_iff.mpr c16
          subst c16
          have H1 : (if t312 < 1 then (if (t310.length : Int) = 0 then (if t311 = true then (some false) else ((laws_alive.f kj5).bind fun t321 => (some t321))) else (some false)) else (laws_FnRecordFrom.l0 kj5 t305 t306 t307 t310 t311 t312 0)) = some r := by rw [if_neg (show ¬ (false = true) by decide)] at H; exact H
          clear H
          have H := H1
          clear H1
          by_cases c17 : t312 < 1
          · rw [if_pos c17] at H
            have c17b0 : decide (t312 < 1) = true := decide_eq_true c17
            clear c17
            by_cases c18 : (t310.length : Int) = 0
            · rw [if_pos c18] at H
              have c18b0 : ((t310.length : Int) == 0) = true := beq_iff_eq.mpr c18
              have c18b1 : ((t310.length : Int) != 0) = false := bne_eq_false_iff_eq.mpr c18
              clear c18
              by_cases c19 : t311 = true
              · subst c19
                have H1 : (some false) = some r := by rw [if_pos rfl] at H; exact H
                clear H
                have H := H1
                clear H1
                obtain rfl := Option.some.inj H
                obtain ⟨Ao20, co20, eo20⟩ := Kd.R_slice HO_6.out
                subst eo20
                go_wp2
                go_ret
                exact ⟨by first | rfl | (simp [errW_none, errW_some] <;> rfl) | (simp [*, errW_none, errW_some] <;> rfl), by repeat (first | (with_reducible first | exact HB.out | apply below_alloc | apply pw_below_drewN | apply below_drew1) | exact HB.out)⟩
              · replace c19 := Bool.eq_false_iff.mpr c19
                subst c19
                have H1 : ((laws_alive.f kj5).bind fun t321 => (some t321)) = some r := by rw [if_neg (show ¬ (false = true) by decide)] at H; exact H
                clear H
                have H := H1
                clear H1
                replace H := Option.bind_eq_some_iff.mp H
                obtain ⟨t321, A210, H⟩ := H
                replace H : (some t321) = some r := H
                have A21 := Aside0.mk A210
                clear A210
                obtain rfl := Option.some.inj H
                obtain ⟨Ao22, co22, eo22⟩ := Kd.R_slice HO_6.out
                subst eo22
                go_wp2_with (first | (go_at_call 20; (with_reducible refine (laws_alive.calls kj5  t321 _ A21.out).mono ?_); rintro e w23 ⟨rfl, hb⟩; have n0_ := Aside0.mk (Kd.R_below (by (with_reducible repeat (first | apply Kd.R_alloc | apply Kd.R_drewN | apply Kd.R_drew)); exact HO_5.out) hb); have n1_ := Aside0.mk (Kd.R_below (by (with_reducible repeat (first | apply Kd.R_alloc | apply Kd.R_drewN | apply Kd.R_drew)); exact HO_6.out) hb); have n2_ := Aside0.mk (below_step (by repeat (first | (with_reducible first | exact HB.out | apply below_alloc | apply pw_below_drewN | apply below_drew1) | exact HB.out)) hb); clear HO_5; clear HO_6; clear HB; have HO_5 := n0_; have HO_6 := n1_; have HB := n2_; clear n0_ n1_ n2_; (try clear hb); (try clear hb2); (try clear hk); (try clear hi)))
                go_ret
                exact ⟨by first | rfl | (simp [errW_none, errW_some] <;> rfl) | (simp [*, errW_none, errW_some] <;> rfl), by repeat (first | (with_reducible first | exact HB.out | apply below_alloc | apply pw_below_drewN | apply below_drew1) | exact HB.out)⟩
            · rw [if_neg c18] at H
              have c18b0 : ((t310.length : Int) == 0) = false := beq_eq_false_iff_ne.mpr c18
              have c18b1 : ((t310.length : Int) != 0) = true := bne_iff_ne.mpr c18
              have c18b2 : ¬ (t310 = []) := fun h_ => c18 (by rw [h_]; rfl)
              obtain rfl := Option.some.inj H
              obtain ⟨Ao24, co24, eo24⟩ := Kd.R_slice HO_6.out
              subst eo24
              go_wp2
              go_ret
              exact ⟨by first | rfl | (simp [errW_none, errW_some] <;> rfl) | (simp [*, errW_none, errW_some] <;> rfl), by repeat (first | (with_reducible first | exact HB.out | apply below_alloc | apply pw_below_drewN | apply below_drew1) | exact HB.out)⟩
          · rw [if_neg c17] at H
            have c17b0 : decide (t312 < 1) = false := decide_eq_false c17
            clear c17
            have H' := Aside0.mk H
            clear H
            go_wp2
            go_loopg [12] kj5 (fun kq v12 w' => ∃ (x12_2 : Int), v12 = .int .i64 x12_2 ∧ Aside0 (laws_FnRecordFrom.l0 kq t305 t306 t307 t310 t311 t312 x12_2 = some r) ∧ Aside0 (kq ≤ kj5) ∧ Aside0 (Kd.R (Kd.int .u8) 5 w' w.heap.size (fun k_ => some k_ ≠ (v313 : Value).ownBlock) (.slice Ao8 t307.length co8) t307) ∧ Aside0 (Kd.R (Kd.int .u8) 5 w' w.heap.size (fun k_ => some k_ ≠ ((.slice Ao8 t307.length co8) : Value).ownBlock) v313 t310) ∧ Aside0 (Below w.heap.size w w'))
            case atStart => exact ⟨(0), (by first | rfl | (simp; done) | (simp [*]; done)), H', ⟨Nat.le_refl _⟩, ⟨by (with_reducible repeat (first | apply Kd.R_alloc | apply Kd.R_drewN | apply Kd.R_drew)); exact HO_5.out⟩, ⟨by (with_reducible repeat (first | apply Kd.R_alloc | apply Kd.R_drewN | apply Kd.R_drew)); exact HO_6.out⟩, ⟨by repeat (first | (with_reducible first | exact HB.out | apply below_alloc | apply pw_below_drewN | apply below_drew1) | exact HB.out)⟩⟩
            case round =>
              clear H'
              try clear c1
              try clear c2
              try clear c2b0
              try clear c2b1
              try clear p2
              try clear c3
              try clear c10
              try clear c11
              try clear c11b0
              try clear c11b1
              try clear c12
              try clear c12b0
              try clear c12b1
              try clear c12b2
              try clear c16
              try clear c17
              try clear c17b0
              try clear c18
              try clear c18b0
              try clear c18b1
              try clear c18b2
              try clear c19
              try clear p2
              obtain ⟨x12_2, rfl, HA, HK2, HO_5, HO_6, HB⟩ := hrel
              cases gk with
              | zero => exact absurd HA.out (by simp [laws_FnRecordFrom.l0])
              | succ k2 =>
                have H := HA.out
                clear HA
                simp only [laws_FnRecordFrom.l0] at H
                by_cases c25 : x12_2 < t312
                · rw [if_pos c25] at H
                  have c25b0 : decide (x12_2 < t312) = true := decide_eq_true c25
                  clear c25
                  obtain ⟨y322, hy322⟩ : ∃ y_ : List Int, y_ = (([] : List Int)) := ⟨_, rfl⟩
                  replace H : (if 0 ≤ x12_2 then (if x12_2 ≤ (t307.length : Int) then ((some (t307.take (x12_2 : Int).toNat : List Int)).bind fun y325 => (if y322.length + y325.length < 140737488355328 then ((impl_RecordFrom.f k2 t305 t306 (y322 ++ y325)).bind fun bt332 => (if bt332.2.2 = 0 then (laws_FnRecordFrom.l0 k2 t305 t306 t307 t310 t311 t312 (wrap64 (x12_2 + 1))) else (some false))) else (none))) else (none)) else (none)) = some r := by first | (rw [hy322]; with_reducible exact H) | (have H2_ := (Option.bind_some _ _).symm.trans H; rw [hy322]; with_reducible exact H2_) | (have H2_ := (Option.bind_some _ _).symm.trans H; with_reducible exact H2_) | with_reducible exact H | (rw [hy322]; exact H) | exact H
                  have Ny322 := Aside0.mk hy322
                  clear hy322
                  by_cases c26 : 0 ≤ x12_2
                  · rw [if_pos c26] at H
                    have c26b0 := eq_true c26
                    have c26b1 : decide (0 ≤ x12_2) = true := decide_eq_true c26
                    clear c26
                    by_cases c27 : x12_2 ≤ (t307.length : Int)
                    · rw [if_pos c27] at H
                      have c27b0 := eq_true c27
                      have c27b1 : decide (x12_2 ≤ (t307.length : Int)) = true := decide_eq_true c27
                      clear c27
                      obtain ⟨y325, hy325⟩ : ∃ y_ : List Int, y_ = (t307.take (x12_2 : Int).toNat) := ⟨_, rfl⟩
                      replace H : (if y322.length + y325.length < 140737488355328 then ((impl_RecordFrom.f k2 t305 t306 (y322 ++ y325)).bind fun bt332 => (if bt332.2.2 = 0 then (laws_FnRecordFrom.l0 k2 t305 t306 t307 t310 t311 t312 (wrap64 (x12_2 + 1))) else (some false))) else (none)) = some r := by first | (rw [hy325]; with_reducible exact H) | (have H2_ := (Option.bind_some _ _).symm.trans H; rw [hy325]; with_reducible exact H2_) | (have H2_ := (Option.bind_some _ _).symm.trans H; with_reducible exact H2_) | with_reducible exact H | (rw [hy325]; exact H) | exact H
                      have Ny325 := Aside0.mk hy325
                      clear hy325
                      by_cases c28 : y322.length + y325.length < 140737488355328
                      · rw [if_pos c28] at H
                        have LMc28 := Aside0.mk c28
                        clear c28
                        obtain ⟨y329, hy329⟩ : ∃ y_ : List Int, y_ = (y322 ++ y325) := ⟨_, rfl⟩
                        replace H : ((impl_RecordFrom.f k2 t305 t306 y329).bind fun bt332 => (if bt332.2.2 = 0 then (laws_FnRecordFrom.l0 k2 t305 t306 t307 t310 t311 t312 (wrap64 (x12_2 + 1))) else (some false))) = some r := by first | (rw [hy329]; with_reducible exact H) | (have H2_ := (Option.bind_some _ _).symm.trans H; rw [hy329]; with_reducible exact H2_) | (have H2_ := (Option.bind_some _ _).symm.trans H; with_reducible exact H2_) | with_reducible exact H | (rw [hy329]; exact H) | exact H
                        have Ny329 := Aside0.mk hy329
                        clear hy329
                        replace H := Option.bind_eq_some_iff.mp H
                        obtain ⟨⟨t332, t333, t334⟩, A290, H⟩ := H
                        replace H : (if t334 = 0 then (laws_FnRecordFrom.l0 k2 t305 t306 t307 t310 t311 t312 (wrap64 (x12_2 + 1))) else (some false)) = some r := H
                        have A29 := Aside0.mk A290
                        clear A290
                        by_cases c30 : t334 = 0
                        · rw [if_pos c30] at H
                          have c30b0 : (t334 == 0) = true := beq_iff_eq.mpr c30
                          have c30b1 : (t334 != 0) = false := bne_eq_false_iff_eq.mpr c30
                          clear c30
                          have H' := Aside0.mk H
                          clear H
                          go_wp2_with (first | ((with_reducible refine gate_dst (N := 75) rfl ?_); refine Kd.R_lit (Kd.int .u8) _ 5 ?hg (N := 75) ?hd (xs := ([] : List Int)) (inner := []) (ok := fun _ => True) (okp := fun _ => True) ?hr ?hp (fun _ hk => hk) trivial (Below.refl _ _) (Nat.le_refl _) (by simp) ?_; (case hd => rfl); (case hg => rfl); (case hr => first | (go_simp; done) | (go_simp; rfl)); (case hp => exact (Reps.none _ _)); intro v323 w31 ho32 hb hg_ hnew_; clear hg_ hnew_; (first | rw [← Ny322.out] at ho32 | (simp only [Int.reduceToNat] at ho32; rw [← Ny322.out] at ho32)); have n0_ := Aside0.mk (Kd.R_elder' (by (with_reducible repeat (first | apply Kd.R_alloc | apply Kd.R_drewN | apply Kd.R_drew)); exact HO_5.out) (Kd.R_base ho32) hb); have n1_ := Aside0.mk (Kd.R_elder' (by (with_reducible repeat (first | apply Kd.R_alloc | apply Kd.R_drewN | apply Kd.R_drew)); exact HO_6.out) (Kd.R_base ho32) hb); have n2_ := Aside0.mk (Kd.R_lower (Kd.R_new' (Kd.R_new' ho32 (Kd.R_lt (by (with_reducible repeat (first | apply Kd.R_alloc | apply Kd.R_drewN | apply Kd.R_drew)); exact HO_5.out))) (Kd.R_lt (by (with_reducible repeat (first | apply Kd.R_alloc | apply Kd.R_drewN | apply Kd.R_drew)); exact HO_6.out))) (below_size (by repeat (first | (with_reducible first | exact HB.out | apply below_alloc | apply pw_below_drewN | apply below_drew1) | exact HB.out)))); have n3_ := Aside0.mk (below_step (by repeat (first | (with_reducible first | exact HB.out | apply below_alloc | apply pw_below_drewN | apply below_drew1) | exact HB.out)) hb); clear HO_5; clear HO_6; clear HB; have HO_5 := n0_; have HO_6 := n1_; have HO324 := n2_; have HB := n3_; clear n0_ n1_ n2_ n3_; clear hb ho32; have q33 : (x12_2 : Int) ≤ ((t307.length : Int) : Int) := of_decide_eq_true (by first | (with_reducible assumption) | assumption); obtain ⟨i033, hi033, _, hsz33, _⟩ := info_parts info5; have hroom33 : t307.length ≤ co8 := (Kd.R_reads' HO_5.out).2.1; have hC33 : Kd.C (Kd.int .u8) _ Ao8 t307.length t307 := (Kd.R_reads' HO_5.out).2.2; have hcut33 := cut_to (P := Try.prog) 22 5 .i64 Try.underlying22 hi033 Ao8 t307.length co8 x12_2 (of_decide_eq_true (by first | (with_reducible assumption) | assumption)) q33 hroom33; have hr33 := Kd.C_take (m := (x12_2 : Int).toNat) hC33 (by omega); have hy33 : y325.length = (x12_2 : Int).toNat := (by rw [Ny325.out, List.length_take]; omega); rw [← Ny325.out] at hr33; rw [← hy33] at hcut33; have HR328 := Aside0.mk hr33; have HC328 := Aside0.mk (show y325.length ≤ co8 from by omega); clear hr33 hC33 hroom33 hi033 hsz33; have KY33 := Aside0.mk hy33; clear hy33; have KL33 := Aside0.mk (show (x12_2 : Int).toNat ≤ t307.length from by omega); replace q33 := eq_true q33) | ((with_reducible refine gate_builtin (b := .append) (xs := #[.tmp 75, .tmp 78]) rfl ?_); at_builtin; refine Kd.R_append_rows (Kd.int .u8) (w0 := w) w.heap.size rfl (.tmp 75) (.tmp 78) 22 5 (.int .u8 0) 1 rfl Try.underlying22 info5 rfl (by decide) (by omega) v323 y322 y325 _ _ _ (fun k_ => some k_ ≠ (.slice Ao8 t307.length co8 : Value).ownBlock ∧ some k_ ≠ (v313 : Value).ownBlock) (fun _ => False) rfl rfl ?aO ?aR (fun _ _ h => h) (fun _ h => h.elim) ?aF ?aB ?aS ?aL ?_; (case aR => repeat (first | exact (by repeat (first | (with_reducible exact HR328.out) | (with_reducible refine Kd.C_alloc ?_ _) | (with_reducible refine Kd.C_drewN ?_ _) | (with_reducible refine Kd.C_drew ?_) | exact HR328.out)) | (with_reducible refine Kd.C_alloc ?_ _) | (with_reducible refine Kd.C_drewN ?_ _) | (with_reducible refine Kd.C_drew ?_))); (case aB => exact (by repeat (first | (with_reducible first | exact HB.out | apply below_alloc | apply pw_below_drewN | apply below_drew1) | exact HB.out))); (case aF => exact (fun k_ hk => ⟨Kd.fresh' (Kd.R_lt (by (with_reducible repeat (first | apply Kd.R_alloc | apply Kd.R_drewN | apply Kd.R_drew)); exact HO_5.out)) k_ hk, Kd.fresh' (Kd.R_lt (by (with_reducible repeat (first | apply Kd.R_alloc | apply Kd.R_drewN | apply Kd.R_drew)); exact HO_6.out)) k_ hk⟩)); (case aO => exact (by (with_reducible repeat (first | apply Kd.R_alloc | apply Kd.R_drewN | apply Kd.R_drew)); exact Kd.R_mono HO324.out (fun _ hk => ⟨hk.1.2, hk.2⟩))); (case aS => exact (below_size (by repeat (first | (with_reducible first | exact HB.out | apply below_alloc | apply pw_below_drewN | apply below_drew1) | exact HB.out)))); (case aL => have := LMc28.out; omega); intro v330 w34 ho hb hg hat; rw [← Ny329.out] at ho; have n0_ := Aside0.mk (Kd.R_after (ok := (fun k_ => some k_ ≠ (v313 : Value).ownBlock)) (by (with_reducible repeat (first | apply Kd.R_alloc | apply Kd.R_drewN | apply Kd.R_drew)); exact HO_5.out) hg hat); have n1_ := Aside0.mk (Kd.R_after (ok := (fun k_ => some k_ ≠ (.slice Ao8 t307.length co8 : Value).ownBlock)) (by (with_reducible repeat (first | apply Kd.R_alloc | apply Kd.R_drewN | apply Kd.R_drew)); exact HO_6.out) hg hat); have n2_ := Aside0.mk (hb); have n3_ := Aside0.mk ((show Kd.C (Kd.int .u8) w34 Ao8 y325.length y325 from by rw [Ny325.out]; exact Kd.C_take (m := (x12_2 : Int).toNat) ((Kd.R_reads' (Kd.R_after (ok := (fun k_ => some k_ ≠ (v313 : Value).ownBlock)) (by (with_reducible repeat (first | apply Kd.R_alloc | apply Kd.R_drewN | apply Kd.R_drew)); exact HO_5.out) hg hat)).2.2) KL33.out)); have n4_ := Aside0.mk (ho); clear HO_5; clear HO_6; clear HB; clear HR328; clear HO324; have HO_5 := n0_; have HO_6 := n1_; have HB := n2_; have HR328 := n3_; have HO331 := n4_; clear n0_ n1_ n2_ n3_ n4_; clear ho hb hg hat; obtain ⟨Ao35, co35, eo35⟩ := Kd.R_slice HO331.out; subst eo35) | ((with_reducible refine gate_callee (f := 26) rfl ?_); refine goesL_ (some 80) rfl rfl Try.func26 (by kernel_rfl) rfl #[.int .i64 t305, .int .i64 t306, .slice Ao35 y329.length co35] rfl (by (try simp only [List.map_toArray, List.map_cons, List.map_nil]); first | done | rfl | (simp only [List.length_drop, List.length_take]; rfl)) ?_; (with_reducible refine (impl_RecordFrom.calls k2 t305 t306 _ _ y329 t332 t333 t334 _ ?side1 ?side2 A29.out).mono ?_); (case side1 => repeat (first | exact (Kd.R_reads' HO331.out).2.2 | (with_reducible refine Kd.C_alloc ?_ _) | (with_reducible refine Kd.C_drewN ?_ _) | (with_reducible refine Kd.C_drew ?_))); (case side2 => exact (Kd.R_reads' HO331.out).2.1); rintro e w36 ⟨v335, rfl, ho0, hb⟩; refine ⟨_, rfl, ?_⟩; have n0_ := Aside0.mk (Kd.R_elder' (by (with_reducible repeat (first | apply Kd.R_alloc | apply Kd.R_drewN | apply Kd.R_drew)); exact HO_5.out) (Kd.R_base ho0) hb); have n1_ := Aside0.mk (Kd.R_elder' (by (with_reducible repeat (first | apply Kd.R_alloc | apply Kd.R_drewN | apply Kd.R_drew)); exact HO_6.out) (Kd.R_base ho0) hb); have n2_ := Aside0.mk (Kd.R_elder' (by (with_reducible repeat (first | apply Kd.R_alloc | apply Kd.R_drewN | apply Kd.R_drew)); exact HO331.out) (Kd.R_base ho0) hb); have n3_ := Aside0.mk (Kd.R_lower (Kd.R_new' (Kd.R_new' (Kd.R_new' ho0 (Kd.R_lt (by (with_reducible repeat (first | apply Kd.R_alloc | apply Kd.R_drewN | apply Kd.R_drew)); exact HO_5.out))) (Kd.R_lt (by (with_reducible repeat (first | apply Kd.R_alloc | apply Kd.R_drewN | apply Kd.R_drew)); exact HO_6.out))) (Kd.R_lt (by (with_reducible repeat (first | apply Kd.R_alloc | apply Kd.R_drewN | apply Kd.R_drew)); exact HO331.out))) (below_size (by repeat (first | (with_reducible first | exact HB.out | apply below_alloc | apply pw_below_drewN | apply below_drew1) | exact HB.out)))); have n4_ := Aside0.mk (Kd.C_below (by repeat (first | (with_reducible exact HR328.out) | (with_reducible refine Kd.C_alloc ?_ _) | (with_reducible refine Kd.C_drewN ?_ _) | (with_reducible refine Kd.C_drew ?_) | exact HR328.out)) hb); have n5_ := Aside0.mk (below_step (by repeat (first | (with_reducible first | exact HB.out | apply below_alloc | apply pw_below_drewN | apply below_drew1) | exact HB.out)) hb); clear HO_5; clear HO_6; clear HO331; clear HR328; clear HB; have HO_5 := n0_; have HO_6 := n1_; have HO331 := n2_; have HO336 := n3_; have HR328 := n4_; have HB := n5_; clear n0_ n1_ n2_ n3_ n4_ n5_; (try clear hb); (try clear hb2); (try clear hk); (try clear hi); (try clear ho0)))
                          go_roundg k2
                          case measure => have := HJ5.out; have := HK2.out; omega
                          case rel => exact ⟨(wrap64 (x12_2 + 1)), (by first | rfl | (simp; done) | (simp [*]; done)), H', ⟨by have := HJ5.out; have := HK2.out; omega⟩, ⟨by (with_reducible repeat (first | apply Kd.R_alloc | apply Kd.R_drewN | apply Kd.R_drew)); exact Kd.R_mono HO_5.out (fun _ hk => hk.1.1)⟩, ⟨by (with_reducible repeat (first | apply Kd.R_alloc | apply Kd.R_drewN | apply Kd.R_drew)); exact Kd.R_mono HO_6.out (fun _ hk => hk.1.1)⟩, ⟨by repeat (first | (with_reducible first | exact HB.out | apply below_alloc | apply pw_below_drewN | apply below_drew1) | exact HB.out)⟩⟩
                        · rw [if_neg c30] at H
                          have c30b0 : (t334 == 0) = false := beq_eq_false_iff_ne.mpr c30
                          have c30b1 : (t334 != 0) = true := bne_iff_ne.mpr c30
                          obtain rfl := Option.some.inj H
                          go_wp2_with (first | ((with_reducible refine gate_dst (N := 75) rfl ?_); refine Kd.R_lit (Kd.int .u8) _ 5 ?hg (N := 75) ?hd (xs := ([] : List Int)) (inner := []) (ok := fun _ => True) (okp := fun _ => True) ?hr ?hp (fun _ hk => hk) trivial (Below.refl _ _) (Nat.le_refl _) (by simp) ?_; (case hd => rfl); (case hg => rfl); (case hr => first | (go_simp; done) | (go_simp; rfl)); (case hp => exact (Reps.none _ _)); intro v323 w37 ho38 hb hg_ hnew_; clear hg_ hnew_; (first | rw [← Ny322.out] at ho38 | (simp only [Int.reduceToNat] at ho38; rw [← Ny322.out] at ho38)); have n0_ := Aside0.mk (Kd.R_elder' (by (with_reducible repeat (first | apply Kd.R_alloc | apply Kd.R_drewN | apply Kd.R_drew)); exact HO_5.out) (Kd.R_base ho38) hb); have n1_ := Aside0.mk (Kd.R_elder' (by (with_reducible repeat (first | apply Kd.R_alloc | apply Kd.R_drewN | apply Kd.R_drew)); exact HO_6.out) (Kd.R_base ho38) hb); have n2_ := Aside0.mk (Kd.R_lower (Kd.R_new' (Kd.R_new' ho38 (Kd.R_lt (by (with_reducible repeat (first | apply Kd.R_alloc | apply Kd.R_drewN | apply Kd.R_drew)); exact HO_5.out))) (Kd.R_lt (by (with_reducible repeat (first | apply Kd.R_alloc | apply Kd.R_drewN | apply Kd.R_drew)); exact HO_6.out))) (below_size (by repeat (first | (with_reducible first | exact HB.out | apply below_alloc | apply pw_below_drewN | apply below_drew1) | exact HB.out)))); have n3_ := Aside0.mk (below_step (by repeat (first | (with_reducible first | exact HB.out | apply below_alloc | apply pw_below_drewN | apply below_drew1) | exact HB.out)) hb); clear HO_5; clear HO_6; clear HB; have HO_5 := n0_; have HO_6 := n1_; have HO324 := n2_; have HB := n3_; clear n0_ n1_ n2_ n3_; clear hb ho38; have q39 : (x12_2 : Int) ≤ ((t307.length : Int) : Int) := of_decide_eq_true (by first | (with_reducible assumption) | assumption); obtain ⟨i039, hi039, _, hsz39, _⟩ := info_parts info5; have hroom39 : t307.length ≤ co8 := (Kd.R_reads' HO_5.out).2.1; have hC39 : Kd.C (Kd.int .u8) _ Ao8 t307.length t307 := (Kd.R_reads' HO_5.out).2.2; have hcut39 := cut_to (P := Try.prog) 22 5 .i64 Try.underlying22 hi039 Ao8 t307.length co8 x12_2 (of_decide_eq_true (by first | (with_reducible assumption) | assumption)) q39 hroom39; have hr39 := Kd.C_take (m := (x12_2 : Int).toNat) hC39 (by omega); have hy39 : y325.length = (x12_2 : Int).toNat := (by rw [Ny325.out, List.length_take]; omega); rw [← Ny325.out] at hr39; rw [← hy39] at hcut39; have HR328 := Aside0.mk hr39; have HC328 := Aside0.mk (show y325.length ≤ co8 from by omega); clear hr39 hC39 hroom39 hi039 hsz39; have KY39 := Aside0.mk hy39; clear hy39; have KL39 := Aside0.mk (show (x12_2 : Int).toNat ≤ t307.length from by omega); replace q39 := eq_true q39) | ((with_reducible refine gate_builtin (b := .append) (xs := #[.tmp 75, .tmp 78]) rfl ?_); at_builtin; refine Kd.R_append_rows (Kd.int .u8) (w0 := w) w.heap.size rfl (.tmp 75) (.tmp 78) 22 5 (.int .u8 0) 1 rfl Try.underlying22 info5 rfl (by decide) (by omega) v323 y322 y325 _ _ _ (fun k_ => some k_ ≠ (.slice Ao8 t307.length co8 : Value).ownBlock ∧ some k_ ≠ (v313 : Value).ownBlock) (fun _ => False) rfl rfl ?aO ?aR (fun _ _ h => h) (fun _ h => h.elim) ?aF ?aB ?aS ?aL ?_; (case aR => repeat (first | exact (by repeat (first | (with_reducible exact HR328.out) | (with_reducible refine Kd.C_alloc ?_ _) | (with_reducible refine Kd.C_drewN ?_ _) | (with_reducible refine Kd.C_drew ?_) | exact HR328.out)) | (with_reducible refine Kd.C_alloc ?_ _) | (with_reducible refine Kd.C_drewN ?_ _) | (with_reducible refine Kd.C_drew ?_))); (case aB => exact (by repeat (first | (with_reducible first | exact HB.out | apply below_alloc | apply pw_below_drewN | apply below_drew1) | exact HB.out))); (case aF => exact (fun k_ hk => ⟨Kd.fresh' (Kd.R_lt (by (with_reducible repeat (first | apply Kd.R_alloc | apply Kd.R_drewN | apply Kd.R_drew)); exact HO_5.out)) k_ hk, Kd.fresh' (Kd.R_lt (by (with_reducible repeat (first | apply Kd.R_alloc | apply Kd.R_drewN | apply Kd.R_drew)); exact HO_6.out)) k_ hk⟩)); (case aO => exact (by (with_reducible repeat (first | apply Kd.R_alloc | apply Kd.R_drewN | apply Kd.R_drew)); exact Kd.R_mono HO324.out (fun _ hk => ⟨hk.1.2, hk.2⟩))); (case aS => exact (below_size (by repeat (first | (with_reducible first | exact HB.out | apply below_alloc | apply pw_below_drewN | apply below_drew1) | exact HB.out)))); (case aL => have := LMc28.out; omega); intro v330 w40 ho hb hg hat; rw [← Ny329.out] at ho; have n0_ := Aside0.mk (Kd.R_after (ok := (fun k_ => some k_ ≠ (v313 : Value).ownBlock)) (by (with_reducible repeat (first | apply Kd.R_alloc | apply Kd.R_drewN | apply Kd.R_drew)); exact HO_5.out) hg hat); have n1_ := Aside0.mk (Kd.R_after (ok := (fun k_ => some k_ ≠ (.slice Ao8 t307.length co8 : Value).ownBlock)) (by (with_reducible repeat (first | apply Kd.R_alloc | apply Kd.R_drewN | apply Kd.R_drew)); exact HO_6.out) hg hat); have n2_ := Aside0.mk (hb); have n3_ := Aside0.mk ((show Kd.C (Kd.int .u8) w40 Ao8 y325.length y325 from by rw [Ny325.out]; exact Kd.C_take (m := (x12_2 : Int).toNat) ((Kd.R_reads' (Kd.R_after (ok := (fun k_ => some k_ ≠ (v313 : Value).ownBlock)) (by (with_reducible repeat (first | apply Kd.R_alloc | apply Kd.R_drewN | apply Kd.R_drew)); exact HO_5.out) hg hat)).2.2) KL39.out)); have n4_ := Aside0.mk (ho); clear HO_5; clear HO_6; clear HB; clear HR328; clear HO324; have HO_5 := n0_; have HO_6 := n1_; have HB := n2_; have HR328 := n3_; have HO331 := n4_; clear n0_ n1_ n2_ n3_ n4_; clear ho hb hg hat; obtain ⟨Ao41, co41, eo41⟩ := Kd.R_slice HO331.out; subst eo41) | ((with_reducible refine gate_callee (f := 26) rfl ?_); refine goesL_ (some 80) rfl rfl Try.func26 (by kernel_rfl) rfl #[.int .i64 t305, .int .i64 t306, .slice Ao41 y329.length co41] rfl (by (try simp only [List.map_toArray, List.map_cons, List.map_nil]); first | done | rfl | (simp only [List.length_drop, List.length_take]; rfl)) ?_; (with_reducible refine (impl_RecordFrom.calls k2 t305 t306 _ _ y329 t332 t333 t334 _ ?side1 ?side2 A29.out).mono ?_); (case side1 => repeat (first | exact (Kd.R_reads' HO331.out).2.2 | (with_reducible refine Kd.C_alloc ?_ _) | (with_reducible refine Kd.C_drewN ?_ _) | (with_reducible refine Kd.C_drew ?_))); (case side2 => exact (Kd.R_reads' HO331.out).2.1); rintro e w42 ⟨v335, rfl, ho0, hb⟩; refine ⟨_, rfl, ?_⟩; have n0_ := Aside0.mk (Kd.R_elder' (by (with_reducible repeat (first | apply Kd.R_alloc | apply Kd.R_drewN | apply Kd.R_drew)); exact HO_5.out) (Kd.R_base ho0) hb); have n1_ := Aside0.mk (Kd.R_elder' (by (with_reducible repeat (first | apply Kd.R_alloc | apply Kd.R_drewN | apply Kd.R_drew)); exact HO_6.out) (Kd.R_base ho0) hb); have n2_ := Aside0.mk (Kd.R_elder' (by (with_reducible repeat (first | apply Kd.R_alloc | apply Kd.R_drewN | apply Kd.R_drew)); exact HO331.out) (Kd.R_base ho0) hb); have n3_ := Aside0.mk (Kd.R_lower (Kd.R_new' (Kd.R_new' (Kd.R_new' ho0 (Kd.R_lt (by (with_reducible repeat (first | apply Kd.R_alloc | apply Kd.R_drewN | apply Kd.R_drew)); exact HO_5.out))) (Kd.R_lt (by (with_reducible repeat (first | apply Kd.R_alloc | apply Kd.R_drewN | apply Kd.R_drew)); exact HO_6.out))) (Kd.R_lt (by (with_reducible repeat (first | apply Kd.R_alloc | apply Kd.R_drewN | apply Kd.R_drew)); exact HO331.out))) (below_size (by repeat (first | (with_reducible first | exact HB.out | apply below_alloc | apply pw_below_drewN | apply below_drew1) | exact HB.out)))); have n4_ := Aside0.mk (Kd.C_below (by repeat (first | (with_reducible exact HR328.out) | (with_reducible refine Kd.C_alloc ?_ _) | (with_reducible refine Kd.C_drewN ?_ _) | (with_reducible refine Kd.C_drew ?_) | exact HR328.out)) hb); have n5_ := Aside0.mk (below_step (by repeat (first | (with_reducible first | exact HB.out | apply below_alloc | apply pw_below_drewN | apply below_drew1) | exact HB.out)) hb); clear HO_5; clear HO_6; clear HO331; clear HR328; clear HB; have HO_5 := n0_; have HO_6 := n1_; have HO331 := n2_; have HO336 := n3_; have HR328 := n4_; have HB := n5_; clear n0_ n1_ n2_ n3_ n4_ n5_; (try clear hb); (try clear hb2); (try clear hk); (try clear hi); (try clear ho0)))
                          go_ret
                          exact ⟨by first | rfl | (simp [errW_none, errW_some] <;> rfl) | (simp [*, errW_none, errW_some] <;> rfl), by repeat (first | (with_reducible first | exact HB.out | apply below_alloc | apply pw_below_drewN | apply below_drew1) | exact HB.out)⟩
                      · rw [if_neg c28] at H
                        exact absurd H (by simp)
                    · rw [if_neg c27] at H
                      exact absurd H (by simp)
                  · rw [if_neg c26] at H
                    exact absurd H (by simp)
                · rw [if_neg c25] at H
                  have c25b0 : decide (x12_2 < t312) = false := decide_eq_false c25
                  clear c25
                  replace H := Option.bind_eq_some_iff.mp H
                  obtain ⟨t337, A430, H⟩ := H
                  replace H : (if 0 ≤ t312 then (if t312 ≤ (t307.length : Int) then ((laws_sameBytes.f t337 (t307.take (t312 : Int).toNat)).bind fun t344 => (some t344)) else (none)) else (none)) = some r := H
                  have A43 := Aside0.mk A430
                  clear A430
                  by_cases c44 : 0 ≤ t312
                  · rw [if_pos c44] at H
                    have c44b0 := eq_true c44
                    have c44b1 : decide (0 ≤ t312) = true := decide_eq_true c44
                    clear c44
                    by_cases c45 : t312 ≤ (t307.length : Int)
                    · rw [if_pos c45] at H
                      have c45b0 := eq_true c45
                      have c45b1 : decide (t312 ≤ (t307.length : Int)) = true := decide_eq_true c45
                      clear c45
                      obtain ⟨y340, hy340⟩ : ∃ y_ : List Int, y_ = (t307.take (t312 : Int).toNat) := ⟨_, rfl⟩
                      replace H : ((laws_sameBytes.f t337 y340).bind fun t344 => (some t344)) = some r := by first | (rw [hy340]; with_reducible exact H) | (have H2_ := (Option.bind_some _ _).symm.trans H; rw [hy340]; with_reducible exact H2_) | (have H2_ := (Option.bind_some _ _).symm.trans H; with_reducible exact H2_) | with_reducible exact H | (rw [hy340]; exact H) | exact H
                      have Ny340 := Aside0.mk hy340
                      clear hy340
                      replace H := Option.bind_eq_some_iff.mp H
                      obtain ⟨t344, A460, H⟩ := H
                      replace H : (some t344) = some r := H
                      have A46 := Aside0.mk A460
                      clear A460
                      obtain rfl := Option.some.inj H
                      try go_wp2
                      have n0_ := Aside0.mk (Kd.R_drew HO_5.out)
                      have n1_ := Aside0.mk (Kd.R_drew HO_6.out)
                      have n2_ := Aside0.mk (below_drew1 HB.out)
                      clear HO_5
                      clear HO_6
                      clear HB
                      have HO_5 := n0_
                      have HO_6 := n1_
                      have HB := n2_
                      clear n0_ n1_ n2_
                      have q48 : (t312 : Int) ≤ ((t307.length : Int) : Int) := of_decide_eq_true (by first | (with_reducible assumption) | assumption)
                      obtain ⟨i048, hi048, _, hsz48, _⟩ := info_parts info5
                      have hroom48 : t307.length ≤ co8 := (Kd.R_reads' HO_5.out).2.1
                      have hC48 : Kd.C (Kd.int .u8) _ Ao8 t307.length t307 := (Kd.R_reads' HO_5.out).2.2
                      have hcut48 := cut_to (P := Try.prog) 22 5 .i64 Try.underlying22 hi048 Ao8 t307.length co8 t312 (of_decide_eq_true (by first | (with_reducible assumption) | assumption)) q48 hroom48
                      have hr48 := Kd.C_take (m := (t312 : Int).toNat) hC48 (by omega)
                      have hy48 : y340.length = (t312 : Int).toNat := (by rw [Ny340.out, List.length_take]; omega)
                      rw [← Ny340.out] at hr48
                      rw [← hy48] at hcut48
                      have HR343 := Aside0.mk hr48
                      have HC343 := Aside0.mk (show y340.length ≤ co8 from by omega)
                      clear hr48 hC48 hroom48 hi048 hsz48
                      have KY48 := Aside0.mk hy48
                      clear hy48
                      have KL48 := Aside0.mk (show (t312 : Int).toNat ≤ t307.length from by omega)
                      replace q48 := eq_true q48
                      obtain ⟨Ao49, co49, eo49⟩ := Kd.R_slice HO_6.out
                      (first | subst eo49 | (injection eo49 with f1_ f2_ f3_; have f4_ := f1_.symm; have f5_ := f3_.symm; clear f1_ f2_ f3_; subst f4_; subst f5_))
                      refine start_ (n := 10) (S := fun w' => True) (ds := []) #[false, false, false, false, false, false, false, false, false, false] (by kernel_rfl) rfl rfl trivial (fun hHeld => ?_); refine with_tabW laws_FnRecordFrom.tab16 laws_FnRecordFrom.bits16 (fun HT_ HW_ => ?_)
                      generalize wr.drew = w47 at HO_5 HO_6 HB HR343 hHeld ⊢
                      refine pure_ (i := 0) (N := some 86) (v := ?_) (a' := ?_) #[true, false, false, false, false, false, false, false, false, false] rfl rfl (any_of HT_.out (by kernel_rfl)) (fun _ _ _ h => h) (Or.inl ⟨by rfl, ?_⟩) ?_ ?_
                      rotate_left
                      · intro w'
                        go_simp
                        with_reducible rfl
                      rotate_left
                      · simp only [Act.put, List.setIfInBounds_toArray, List.set_cons_zero, List.set_cons_succ, i64_w, i32_w]
                        rfl
                      refine pure_ (i := 1) (N := some 87) (v := ?_) (a' := ?_) #[true, true, false, false, false, false, false, false, false, false] rfl rfl (any_of HT_.out (by kernel_rfl)) (fun _ _ _ h => h) (Or.inl ⟨by rfl, ?_⟩) ?_ ?_
                      rotate_left
                      · intro w'
                        go_simp
                        with_reducible rfl
                      rotate_left
                      · simp only [Act.put, List.setIfInBounds_toArray, List.set_cons_zero, List.set_cons_succ, i64_w, i32_w]
                        rfl
                      refine pure_ (i := 2) (N := some 88) (v := ?_) (a' := ?_) #[true, true, true, false, false, false, false, false, false, false] rfl rfl (any_of HT_.out (by kernel_rfl)) (fun _ _ _ h => h) (Or.inl ⟨by rfl, ?_⟩) ?_ ?_
                      rotate_left
                      · intro w'
                        go_simp
                        with_reducible rfl
                      rotate_left
                      · simp only [Act.put, List.setIfInBounds_toArray, List.set_cons_zero, List.set_cons_succ, i64_w, i32_w]
                        rfl
                      refine pure_ (i := 3) (N := some 89) (v := ?_) (a' := ?_) #[true, true, true, true, false, false, false, false, false, false] rfl rfl (any_of HT_.out (by kernel_rfl)) (fun _ _ _ h => h) (Or.inl ⟨by rfl, ?_⟩) ?_ ?_
                      rotate_left
                      · intro w'
                        go_simp
                        with_reducible rfl
                      rotate_left
                      · simp only [Act.put, List.setIfInBounds_toArray, List.set_cons_zero, List.set_cons_succ, i64_w, i32_w]
                        rfl
                      refine pure_ (i := 5) (N := some 91) (v := ?_) (a' := ?_) #[true, true, true, true, false, true, false, false, false, false] rfl rfl (any_of HT_.out (by kernel_rfl)) (fun _ _ _ h => h) (Or.inl ⟨by rfl, ?_⟩) ?_ ?_
                      rotate_left
                      · intro w'
                        go_simp
                        with_reducible rfl
                      rotate_left
                      · simp only [Act.put, List.setIfInBounds_toArray, List.set_cons_zero, List.set_cons_succ, i64_w, i32_w]
                        rfl
                      refine pure_ (i := 6) (N := some 92) (v := ?_) (a' := ?_) #[true, true, true, true, false, true, true, false, false, false] rfl rfl (any_of HT_.out (by kernel_rfl)) (fun _ _ _ h => h) (Or.inl ⟨by rfl, ?_⟩) ?_ ?_
                      rotate_left
                      · intro w'
                        go_simp
                        with_reducible rfl
                      rotate_left
                      · simp only [Act.put, List.setIfInBounds_toArray, List.set_cons_zero, List.set_cons_succ, i64_w, i32_w]
                        rfl
                      refine pure_ (i := 7) (N := some 93) (v := ?_) (a' := ?_) #[true, true, true, true, false, true, true, true, false, false] rfl rfl (any_of HT_.out (by kernel_rfl)) (fun _ _ _ h => h) (Or.inl ⟨by rfl, ?_⟩) ?_ ?_
                      rotate_left
                      · intro w'
                        go_simp
                        with_reducible rfl
                      rotate_left
                      · simp only [Act.put, List.setIfInBounds_toArray, List.set_cons_zero, List.set_cons_succ, i64_w, i32_w]
                        rfl
                      refine one_ (i := 4) (N := some 90) #[true, true, true, true, true, true, true, true, false, false] rfl rfl (one_of HT_.out (by kernel_rfl)) (by decide) (fun K hK => ?_)
                      refine goes_ Try.func22 (by kernel_rfl) rfl #[.int .i64 t305, .int .i64 t306, .slice Ao49 t310.length co49, .bool t311] (by rfl) rfl rfl (by (try simp only [List.map_toArray, List.map_cons, List.map_nil]); first | done | rfl | (simp only [List.length_drop, List.length_take]; rfl)) ?_
                      with_reducible refine (impl_RecordBytes.calls k2 t305 t306 _ _ t310 t311 t337 _ ?side1 ?side2 A43.out).mono ?_
                      (case side1 => repeat (first | exact (Kd.R_reads' HO_6.out).2.2 | (with_reducible refine Kd.C_alloc ?_ _) | (with_reducible refine Kd.C_drewN ?_ _) | (with_reducible refine Kd.C_drew ?_)))
                      (case side2 => exact (Kd.R_reads' HO_6.out).2.1)
                      rintro e w50 ⟨v338, rfl, ho0, hb⟩
                      refine ⟨_, rfl, ?_⟩
                      have n0_ := Aside0.mk (Kd.R_elder' (by (with_reducible repeat (first | apply Kd.R_alloc | apply Kd.R_drewN | apply Kd.R_drew)); exact HO_5.out) (Kd.R_base ho0) hb)
                      have n1_ := Aside0.mk (Kd.R_elder' (by (with_reducible repeat (first | apply Kd.R_alloc | apply Kd.R_drewN | apply Kd.R_drew)); exact HO_6.out) (Kd.R_base ho0) hb)
                      have n2_ := Aside0.mk (Kd.R_lower (Kd.R_new' (Kd.R_new' ho0 (Kd.R_lt (by (with_reducible repeat (first | apply Kd.R_alloc | apply Kd.R_drewN | apply Kd.R_drew)); exact HO_5.out))) (Kd.R_lt (by (with_reducible repeat (first | apply Kd.R_alloc | apply Kd.R_drewN | apply Kd.R_drew)); exact HO_6.out))) (below_size (by repeat (first | (with_reducible first | exact HB.out | apply below_alloc | apply pw_below_drewN | apply below_drew1) | exact HB.out))))
                      have n3_ := Aside0.mk (Kd.C_below (by repeat (first | (with_reducible exact HR343.out) | (with_reducible refine Kd.C_alloc ?_ _) | (with_reducible refine Kd.C_drewN ?_ _) | (with_reducible refine Kd.C_drew ?_) | exact HR343.out)) hb)
                      have n4_ := Aside0.mk (below_step (by repeat (first | (with_reducible first | exact HB.out | apply below_alloc | apply pw_below_drewN | apply below_drew1) | exact HB.out)) hb)
                      clear HO_5
                      clear HO_6
                      clear HR343
                      clear HB
                      have HO_5 := n0_
                      have HO_6 := n1_
                      have HO339 := n2_
                      have HR343 := n3_
                      have HB := n4_
                      clear n0_ n1_ n2_ n3_ n4_
                      (try clear hb)
                      (try clear hb2)
                      (try clear hk)
                      (try clear hi)
                      (try clear ho0)
                      obtain ⟨Ao51, co51, eo51⟩ := Kd.R_slice HO339.out
                      (first | subst eo51 | (injection eo51 with f1_ f2_ f3_; have f4_ := f1_.symm; have f5_ := f3_.symm; clear f1_ f2_ f3_; subst f4_; subst f5_))
                      refine hK.out _ _ trivial (fun hHeld => ?_)
                      clear hK K
                      refine norm_ (a' := ?_) ?_ ?_
                      rotate_left
                      · show Act.put _ (some 90) _ = _
                        simp only [Act.put, List.setIfInBounds_toArray, List.set_cons_zero, List.set_cons_succ, i64_w, i32_w]
                        rfl
                      refine one_ (i := 8) (N := some 94) #[true, true, true, true, true, true, true, true, true, false] rfl rfl (one_of HT_.out (by kernel_rfl)) (by decide) (fun K hK => ?_)
                      refine goes_ Try.func32 (by kernel_rfl) rfl #[.slice Ao51 t337.length co51, .slice Ao8 y340.length co8] (by rfl) rfl rfl (by (try simp only [List.map_toArray, List.map_cons, List.map_nil]); first | done | rfl | (simp only [List.length_drop, List.length_take]; rfl)) ?_
                      with_reducible refine (laws_sameBytes.calls _ _ t337 _ _ y340 t344 _ ?side1 ?side2 ?side3 ?side4 A46.out).mono ?_
                      (case side1 => repeat (first | exact (Kd.R_reads' HO339.out).2.2 | (with_reducible refine Kd.C_alloc ?_ _) | (with_reducible refine Kd.C_drewN ?_ _) | (with_reducible refine Kd.C_drew ?_)))
                      (case side2 => exact (Kd.R_reads' HO339.out).2.1)
                      (case side3 => repeat (first | exact (by repeat (first | (with_reducible exact HR343.out) | (with_reducible refine Kd.C_alloc ?_ _) | (with_reducible refine Kd.C_drewN ?_ _) | (with_reducible refine Kd.C_drew ?_) | exact HR343.out)) | (with_reducible refine Kd.C_alloc ?_ _) | (with_reducible refine Kd.C_drewN ?_ _) | (with_reducible refine Kd.C_drew ?_)))
                      (case side4 => exact HC343.out)
                      rintro e w' ⟨rfl, ⟨nd, rfl⟩⟩
                      refine ⟨_, rfl, ?_⟩
                      refine hK.out _ _ trivial (fun hHeld => ?_)
                      clear hK K
                      refine norm_ (a' := ?_) ?_ ?_
                      rotate_left
                      · show Act.put _ (some 94) _ = _
                        simp only [Act.put, List.setIfInBounds_toArray, List.set_cons_zero, List.set_cons_succ, i64_w, i32_w]
                        rfl
                      refine pure_ (i := 9) (N := some 2) (v := ?_) (a' := ?_) #[true, true, true, true, true, true, true, true, true, true] rfl rfl (any_of HT_.out (by kernel_rfl)) (fun _ _ _ h => h) (Or.inl ⟨by rfl, ?_⟩) ?_ ?_
                      rotate_left
                      · intro w'
                        go_simp
                        with_reducible rfl
                      rotate_left
                      · simp only [Act.put, List.setIfInBounds_toArray, List.set_cons_zero, List.set_cons_succ, i64_w, i32_w]
                        rfl
                      refine done_ (done_of HT_.out (by kernel_rfl)) ?_
                      try go_wp2
                      go_ret
                      exact ⟨by first | rfl | (simp [errW_none, errW_some] <;> rfl) | (simp [*, errW_none, errW_some] <;> rfl), by repeat (first | (with_reducible first | exact HB.out | apply below_alloc | apply pw_below_drewN | apply below_drew1) | exact HB.out)⟩
                    · rw [if_neg c45] at H
                      exact absurd H (by simp)
                  · rw [if_neg c44] at H
                    exact absurd H (by simp)

/-- THE ONE PURE STATEMENT of laws_FnRecordFrom: yours. -/
def laws_FnRecordFrom.Pure : Prop := ∀ (l0 : List Int), l0.length ≤ maxLen → l0.length * 1 ≤ 140737488351232 → (∀ x ∈ l0, (Lit.int .u8 x).wf = true) → ∃ k, laws_FnRecordFrom.f k l0 = some true
theorem laws_FnRecordFrom.walk (P : laws_FnRecordFrom.Pure) (a0 : Option Addr) (len0 cap0 : Nat) (z0 : List Int) (w : World) (w0 : (a0 = none ∧ len0 = 0 ∧ cap0 = 0 ∧ z0 = []) ∨ ∃ x, a0 = some x ∧ len0 ≤ cap0 ∧ cap0 ≤ maxLen ∧ z0.length = cap0 ∧ (∀ i, i < z0.length → w.cell? (x.add i) = some (.int .u8 (z0.getD i 0))) ∧ ∀ n ∈ z0, (Lit.int .u8 n).wf = true) (y0 : len0 * 1 ≤ 140737488351232) :
    Calls Try.prog 10 #[.slice a0 len0 cap0] w fun e w' => e = .returned (.bool true) ∧ Below w.heap.size w w' := by
  obtain ⟨l0, rfl, hr0, hm0, hw0, hc0⟩ := ReadsInt.ofRowC w0
  obtain ⟨k, h⟩ := P l0 hm0 y0 hw0
  refine (laws_FnRecordFrom.calls k _ _ l0 true w (Kd.C_of_reads (d := (0 : Int)) (h1 := fun _ => rfl) hr0) hc0 h).mono ?_
  rintro e w' ⟨rfl, hd⟩
  exact ⟨rfl, hd⟩

end Go.Proofs.Ytgabediginlabaa.GFnRecordFrom
