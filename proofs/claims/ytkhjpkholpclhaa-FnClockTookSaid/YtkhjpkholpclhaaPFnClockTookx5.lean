-- PRINTED BY print.sh 35421559b90ae4d0a3588c463048766b98c2df88dd9212a6774a882060cdf62d: not written by this session
import Derived.Test.YtkhjpkholpclhaaPFnClockTookx0
import Derived.Test.YtkhjpkholpclhaaPFnClockTookx3
import Derived.Test.YtkhjpkholpclhaaPFnClockTookx4
namespace Go.Proofs.Ytkhjpkholpclhaa.PFnClockTook
open Go.RowKit Go.Proofs.YtkhjpkholpclhaaW.PrintWords Go.Proofs.YtkhjpkholpclhaaW.PrintLast Go.Proofs.YtkhjpkholpclhaaW.PrintMore
attribute [local go_sem] max2_int min2_int max_two min_two max_three min_three max_four min_four   -- for this text's walks alone
set_option linter.unusedVariables false
set_option linter.unusedSimpArgs false

/-! ### spec_DrawClockTook: function 51 -/
def spec_DrawClockTook.f (k : Nat) (l0 : List Int) : Option (Int × Int × Int × Int) := (spec_l20Open.f l0).bind fun bt175 => ((spec_l20Clock.f k bt175.1 bt175.2 12).bind fun bt178 => ((spec_l20Rd_pick.f k bt175.1 bt178.2.2.2 256).bind fun bt182 => ((some (([0, 1, 1, 40] : List Int) : List Int)).bind fun y184 => ((spec_l20Rd_pick.f k bt175.1 bt182.2 4).bind fun bt187 => (if 0 ≤ bt187.1 then (if bt187.1 < (y184.length : Int) then ((spec_l20Rd_pick.f k bt175.1 bt187.2 20).bind fun bt190 => (some (bt178.1, bt178.2.1, bt178.2.2.1, wrap64 ((wrap64 (bt182.1 * (rd y184 bt187.1))) - (wrap64 (Int.tdiv bt190.1 19)))))) else (none)) else (none))))))
theorem spec_DrawClockTook.mono : ∀ a0 k, LeO (spec_DrawClockTook.f k a0) (spec_DrawClockTook.f (k + 1) a0) := by
  intro a0 k
  unfold spec_DrawClockTook.f
  repeat' first
      | (with_reducible exact spec_l20Clock.mono _ _ _ _)
      | (with_reducible exact spec_l20Rd_pick.mono _ _ _ _)
      | (with_reducible exact LeO.refl _)
      | (with_reducible exact LeO.none _)
      | (with_reducible refine LeO.ite ?_ ?_)
      | (with_reducible refine LeO.bind ?_ (fun _ => ?_))
      | exact spec_l20Clock.mono _ _ _ _
      | exact spec_l20Rd_pick.mono _ _ _ _
      | exact LeO.none _
      | refine LeO.ite ?_ ?_
      | refine LeO.bind ?_ (fun _ => ?_)
def spec_DrawClockTook.T2 : Bool × List (List Nat × List Nat) := (true, [([], []), ([0], [0]), ([], []), ([2, 1], [2]), ([], []), ([], []), ([5, 3], [5]), ([4, 6], [4, 6]), ([7], [7]), ([3, 8], [3, 8]), ([], []), ([10, 6], [10]), ([11], [11]), ([9, 12], [9, 12]), ([1, 11, 0, 1], [1]), ([13, 14, 0, 1, 2, 3, 4, 5, 6, 7, 8, 9, 10, 11, 12, 13, 14], [13])])
def spec_DrawClockTook.B2 : List Nat := [0, 1, 0, 7, 0, 0, 47, 127, 255, 511, 0, 1135, 3183, 8191, 3183, 32767]
theorem spec_DrawClockTook.tab2 : rtab .any (opsOf Try.f51 2) = spec_DrawClockTook.T2 := by kernel_rfl
theorem spec_DrawClockTook.bits2 : waitsOk spec_DrawClockTook.T2.2 spec_DrawClockTook.B2 = true := by kernel_rfl
set_option maxHeartbeats 8000000 in
set_option maxRecDepth 100000 in
theorem spec_DrawClockTook.calls (k : Nat) (A0 : Option Addr) (c0 : Nat) (l0 : List Int) (r1 : Int) (r2 : Int) (r3 : Int) (r4 : Int) (w : World) (hr0 : Kd.C (Kd.int .u8) w A0 l0.length l0) (hc0 : l0.length ≤ c0) (h : spec_DrawClockTook.f k l0 = some (r1, r2, r3, r4)) :
    Calls Try.prog 51 #[.slice A0 l0.length c0] w fun e w' => e = .returned (.tuple #[.agg #[.int .i64 r1, .int .i64 r2, .int .i64 r3], .int .i64 r4]) ∧ Below w.heap.size w w' := by
  have hu30 := Try.underlying30
  have HR0 := Aside0.mk hr0
  have HC0 := Aside0.mk hc0
  clear hr0 hc0
  have HB := Aside0.mk (Below.refl w.heap.size w)
  have H : ((spec_l20Open.f l0).bind fun bt175 => ((spec_l20Clock.f k bt175.1 bt175.2 12).bind fun bt178 => ((spec_l20Rd_pick.f k bt175.1 bt178.2.2.2 256).bind fun bt182 => ((some (([0, 1, 1, 40] : List Int) : List Int)).bind fun y184 => ((spec_l20Rd_pick.f k bt175.1 bt182.2 4).bind fun bt187 => (if 0 ≤ bt187.1 then (if bt187.1 < (y184.length : Int) then ((spec_l20Rd_pick.f k bt175.1 bt187.2 20).bind fun bt190 => (some (bt178.1, bt178.2.1, bt178.2.2.1, wrap64 ((wrap64 (bt182.1 * (rd y184 bt187.1))) - (wrap64 (Int.tdiv bt190.1 19)))))) else (none)) else (none))))))) = some (r1, r2, r3, r4) := h
  clear h
  replace H := Option.bind_eq_some_iff.mp H
  obtain ⟨⟨t175, t176⟩, A20, H⟩ := H
  replace H : ((spec_l20Clock.f k t175 t176 12).bind fun bt178 => ((spec_l20Rd_pick.f k t175 bt178.2.2.2 256).bind fun bt182 => ((some (([0, 1, 1, 40] : List Int) : List Int)).bind fun y184 => ((spec_l20Rd_pick.f k t175 bt182.2 4).bind fun bt187 => (if 0 ≤ bt187.1 then (if bt187.1 < (y184.length : Int) then ((spec_l20Rd_pick.f k t175 bt187.2 20).bind fun bt190 => (some (bt178.1, bt178.2.1, bt178.2.2.1, wrap64 ((wrap64 (bt182.1 * (rd y184 bt187.1))) - (wrap64 (Int.tdiv bt190.1 19)))))) else (none)) else (none)))))) = some (r1, r2, r3, r4) := H
  have A2 := Aside0.mk A20
  clear A20
  replace H := Option.bind_eq_some_iff.mp H
  obtain ⟨⟨t178, t179, t180, t181⟩, A30, H⟩ := H
  replace H : ((spec_l20Rd_pick.f k t175 t181 256).bind fun bt182 => ((some (([0, 1, 1, 40] : List Int) : List Int)).bind fun y184 => ((spec_l20Rd_pick.f k t175 bt182.2 4).bind fun bt187 => (if 0 ≤ bt187.1 then (if bt187.1 < (y184.length : Int) then ((spec_l20Rd_pick.f k t175 bt187.2 20).bind fun bt190 => (some (t178, t179, t180, wrap64 ((wrap64 (bt182.1 * (rd y184 bt187.1))) - (wrap64 (Int.tdiv bt190.1 19)))))) else (none)) else (none))))) = some (r1, r2, r3, r4) := H
  have A3 := Aside0.mk A30
  clear A30
  replace H := Option.bind_eq_some_iff.mp H
  obtain ⟨⟨t182, t183⟩, A40, H⟩ := H
  replace H : ((some (([0, 1, 1, 40] : List Int) : List Int)).bind fun y184 => ((spec_l20Rd_pick.f k t175 t183 4).bind fun bt187 => (if 0 ≤ bt187.1 then (if bt187.1 < (y184.length : Int) then ((spec_l20Rd_pick.f k t175 bt187.2 20).bind fun bt190 => (some (t178, t179, t180, wrap64 ((wrap64 (t182 * (rd y184 bt187.1))) - (wrap64 (Int.tdiv bt190.1 19)))))) else (none)) else (none)))) = some (r1, r2, r3, r4) := H
  have A4 := Aside0.mk A40
  clear A40
  obtain ⟨y184, hy184⟩ : ∃ y_ : List Int, y_ = (([0, 1, 1, 40] : List Int)) := ⟨_, rfl⟩
  replace H : ((spec_l20Rd_pick.f k t175 t183 4).bind fun bt187 => (if 0 ≤ bt187.1 then (if bt187.1 < (y184.length : Int) then ((spec_l20Rd_pick.f k t175 bt187.2 20).bind fun bt190 => (some (t178, t179, t180, wrap64 ((wrap64 (t182 * (rd y184 bt187.1))) - (wrap64 (Int.tdiv bt190.1 19)))))) else (none)) else (none))) = some (r1, r2, r3, r4) := by first | (rw [hy184]; with_reducible exact H) | (have H2_ := (Option.bind_some _ _).symm.trans H; rw [hy184]; with_reducible exact H2_) | (have H2_ := (Option.bind_some _ _).symm.trans H; with_reducible exact H2_) | with_reducible exact H | (rw [hy184]; exact H) | exact H
  have Ny184 := Aside0.mk hy184
  clear hy184
  replace H := Option.bind_eq_some_iff.mp H
  obtain ⟨⟨t187, t188⟩, A50, H⟩ := H
  replace H : (if 0 ≤ t187 then (if t187 < (y184.length : Int) then ((spec_l20Rd_pick.f k t175 t188 20).bind fun bt190 => (some (t178, t179, t180, wrap64 ((wrap64 (t182 * (rd y184 t187))) - (wrap64 (Int.tdiv bt190.1 19)))))) else (none)) else (none)) = some (r1, r2, r3, r4) := H
  have A5 := Aside0.mk A50
  clear A50
  by_cases c6 : 0 ≤ t187
  · rw [if_pos c6] at H
    have c6b0 : decide (0 ≤ t187) = true := decide_eq_true c6
    clear c6
    by_cases c7 : t187 < (y184.length : Int)
    · rw [if_pos c7] at H
      have c7b0 : decide (t187 < (y184.length : Int)) = true := decide_eq_true c7
      clear c7
      replace H := Option.bind_eq_some_iff.mp H
      obtain ⟨⟨t190, t191⟩, A80, H⟩ := H
      replace H : (some (t178, t179, t180, wrap64 ((wrap64 (t182 * (rd y184 t187))) - (wrap64 (Int.tdiv t190 19))))) = some (r1, r2, r3, r4) := H
      have A8 := Aside0.mk A80
      clear A80
      simp only [Option.some.injEq, Prod.mk.injEq] at H
      obtain ⟨rfl, rfl, rfl, rfl⟩ := H
      go_enter Try.func51, Try.ntmps51
      try go_wp2_with (first | ((with_reducible refine gate_dst (N := 2) rfl ?_); refine box_event ?hg (N := 2) ?hd (cs := #[.int .i64 0, .int .i64 0, .int .i64 0]) (t := 30) ?hr ?_; (case hd => rfl); (case hg => rfl); (case hr => first | (go_simp; done) | (go_simp; rfl)); intro gb174 hg w9 hbox hb; have n0_ := Aside0.mk (below_step (by repeat (first | (with_reducible first | exact HB.out | apply below_alloc | apply pw_below_drewN | apply below_drew1) | exact HB.out)) hb); have n1_ := Aside0.mk (hbox); have n2_ := Aside0.mk ((by rw [hg]; exact (below_size (by repeat (first | (with_reducible first | exact HB.out | apply below_alloc | apply pw_below_drewN | apply below_drew1) | exact HB.out))) : w.heap.size ≤ gb174)); have n3_ := Aside0.mk ((by rw [hg]; exact (below_size (by repeat (first | (with_reducible first | exact HB.out | apply below_alloc | apply pw_below_drewN | apply below_drew1) | exact HB.out))) : w.heap.size ≤ gb174)); clear HB; have HB := n0_; have BK174 := n1_; have GW174 := n2_; have GE174 := n3_; clear n0_ n1_ n2_ n3_; clear hb hbox hg) | ((with_reducible refine gate_callee (f := 56) rfl ?_); refine goesL_ (some 6) rfl rfl Try.func56 (by kernel_rfl) rfl #[.slice A0 l0.length c0] rfl (by (try simp only [List.map_toArray, List.map_cons, List.map_nil]); first | done | rfl | (simp only [List.length_drop, List.length_take]; rfl)) ?_; (with_reducible refine (spec_l20Open.calls _ _ l0 t175 t176 w _ ?side1 ?side2 ?side3 A2.out).mono ?_); (case side1 => repeat (first | (with_reducible first | exact HB.out | apply below_alloc | apply pw_below_drewN | apply below_drew1 | refine below_set ?_ GE174.out) | exact HB.out)); (case side2 => exact HR0.out); (case side3 => exact HC0.out); rintro e w10 ⟨g177, rfl, hi, hb, hb2⟩; refine ⟨_, rfl, ?_⟩; have n0_ := Aside0.mk (blk_below (g := gb174) (o := .cells #[.int .i64 0, .int .i64 0, .int .i64 0] 30 (0, 0)) (by (with_reducible repeat (first | refine blk_drewN ?_ _ | refine blk_drew ?_ | refine blk_alloc ?_ _)); exact BK174.out) hb2); have n1_ := Aside0.mk (hb); have n2_ := Aside0.mk (hi); have n3_ := Aside0.mk (IsS72.ne_blk hi (blk_below (g := gb174) (o := .cells #[.int .i64 0, .int .i64 0, .int .i64 0] 30 (0, 0)) (by (with_reducible repeat (first | refine blk_drewN ?_ _ | refine blk_drew ?_ | refine blk_alloc ?_ _)); exact BK174.out) hb2) (by decide)); have n4_ := Aside0.mk (Ne.symm (IsS72.ne_blk hi (blk_below (g := gb174) (o := .cells #[.int .i64 0, .int .i64 0, .int .i64 0] 30 (0, 0)) (by (with_reducible repeat (first | refine blk_drewN ?_ _ | refine blk_drew ?_ | refine blk_alloc ?_ _)); exact BK174.out) hb2) (by decide))); clear BK174; clear HB; have BK174 := n0_; have HB := n1_; have HI177 := n2_; have NB177_174 := n3_; have NB174_177 := n4_; clear n0_ n1_ n2_ n3_ n4_; (try clear hb); (try clear hb2); (try clear hk); (try clear hi)))
      have pi189 : (0 ≤ (t187 : Int)) = True := eq_true (of_decide_eq_true (by first | (with_reducible assumption) | assumption))
      have qi189 : (t187 < (y184.length : Int)) = True := eq_true (of_decide_eq_true (by first | (with_reducible assumption) | assumption))
      have n0_ := Aside0.mk (blk_drew BK174.out)
      have n1_ := Aside0.mk (IsS72.drew HI177.out)
      have n2_ := Aside0.mk (below_drew1 HB.out)
      clear BK174
      clear HI177
      clear HB
      have BK174 := n0_
      have HI177 := n1_
      have HB := n2_
      clear n0_ n1_ n2_
      refine start_ (n := 16) (S := fun w' => True) (ds := []) #[false, false, false, false, false, false, false, false, false, false, false, false, false, false, false, false] (by kernel_rfl) rfl rfl trivial (fun hHeld => ?_); refine with_tabW spec_DrawClockTook.tab2 spec_DrawClockTook.bits2 (fun HT_ HW_ => ?_)
      generalize w10.drew = w11 at BK174 HI177 HB hHeld ⊢
      refine pure_ (i := 0) (N := some 7) (v := ?_) (a' := ?_) #[true, false, false, false, false, false, false, false, false, false, false, false, false, false, false, false] rfl rfl (any_of HT_.out (by kernel_rfl)) (fun _ _ _ h => h) (Or.inl ⟨by rfl, ?_⟩) ?_ ?_
      rotate_left
      · intro w'
        go_simp
        with_reducible rfl
      rotate_left
      · simp only [Act.put, List.setIfInBounds_toArray, List.set_cons_zero, List.set_cons_succ, i64_w, i32_w]
        rfl
      refine pure_ (i := 2) (N := some 9) (v := ?_) (a' := ?_) #[true, false, true, false, false, false, false, false, false, false, false, false, false, false, false, false] rfl rfl (any_of HT_.out (by kernel_rfl)) (fun _ _ _ h => h) (Or.inl ⟨by rfl, ?_⟩) ?_ ?_
      rotate_left
      · intro w'
        go_simp
        with_reducible rfl
      rotate_left
      · simp only [Act.put, List.setIfInBounds_toArray, List.set_cons_zero, List.set_cons_succ, i64_w, i32_w]
        rfl
      refine pure_ (i := 5) (N := some 12) (v := ?_) (a' := ?_) #[true, false, true, false, false, true, false, false, false, false, false, false, false, false, false, false] rfl rfl (any_of HT_.out (by kernel_rfl)) (fun _ _ _ h => h) (Or.inl ⟨by rfl, ?_⟩) ?_ ?_
      rotate_left
      · intro w'
        go_simp
        with_reducible rfl
      rotate_left
      · simp only [Act.put, List.setIfInBounds_toArray, List.set_cons_zero, List.set_cons_succ, i64_w, i32_w]
        rfl
      refine pure_ (i := 10) (N := some 17) (v := ?_) (a' := ?_) #[true, false, true, false, false, true, false, false, false, false, true, false, false, false, false, false] rfl rfl (any_of HT_.out (by kernel_rfl)) (fun _ _ _ h => h) (Or.inl ⟨by rfl, ?_⟩) ?_ ?_
      rotate_left
      · intro w'
        go_simp
        with_reducible rfl
      rotate_left
      · simp only [Act.put, List.setIfInBounds_toArray, List.set_cons_zero, List.set_cons_succ, i64_w, i32_w]
        rfl
      refine inv_at [1, 3, 4, 6, 7, 8, 9, 11, 12, 13, 14, 15] (fun a0_ b a w' => ∃ (v185 : Value) (adz_v185 : Addr) (m7_ : Value), a = putSel a0_ b [(1, 8, .agg #[.int .i64 t178, .int .i64 t179, .int .i64 t180]), (3, 10, .int .i64 t182), (4, 11, v185), (6, 13, .int .i64 t187), (7, 14, m7_), (8, 15, .int .i64 (rd y184 t187)), (9, 16, .int .i64 (wrap64 (t182 * (rd y184 t187)))), (11, 18, .int .i64 t190), (12, 19, .int .i64 (wrap64 (Int.tdiv t190 19))), (13, 20, .int .i64 (wrap64 ((wrap64 (t182 * (rd y184 t187))) - (wrap64 (Int.tdiv t190 19))))), (15, 3, .int .i64 (wrap64 ((wrap64 (t182 * (rd y184 t187))) - (wrap64 (Int.tdiv t190 19)))))] ∧ (b 14 = false → w'.heap[gb174]? = some (.cells #[.int .i64 0, .int .i64 0, .int .i64 0] 30 (0, 0))) ∧ (b 1 = false → IsS72 w w' g177 t175 t176) ∧ (Below w.heap.size w w') ∧ (b 1 = true → b 3 = false → IsS72 w w' g177 t175 t181) ∧ (b 3 = true → b 6 = false → IsS72 w w' g177 t175 t183) ∧ (b 4 = true → Kd.R (Kd.int .i64) 3 w' w.heap.size (fun _ => True) v185 y184) ∧ (b 4 = true → ∃ c_, (v185 : Value) = .slice (some adz_v185) y184.length c_) ∧ (b 6 = true → b 11 = false → IsS72 w w' g177 t175 t188) ∧ (b 11 = true → IsS72 w w' g177 t175 t191) ∧ (b 14 = true → w'.heap[gb174]? = some (.cells #[.int .i64 t178, .int .i64 t179, .int .i64 t180] 30 (0, 0))) ∧ (b 7 = true → (m7_ : Value) = .pointer (some (adz_v185.add (t187).toNat)))) HT_.out HW_.out (by kernel_rfl) (by kernel_rfl) ?_ ?_ ?_
      · exact ⟨.bool false, ⟨0, 0, none⟩, .bool false, by simp only [putSel, Bool.false_eq_true, if_false], fun _ => BK174.out, fun _ => HI177.out, HB.out, fun h_ => absurd h_ (by decide), fun h_ => absurd h_ (by decide), fun h_ => absurd h_ (by decide), fun h_ => absurd h_ (by decide), fun h_ => absurd h_ (by decide), fun h_ => absurd h_ (by decide), fun h_ => absurd h_ (by decide), fun h_ => absurd h_ (by decide)⟩
      · skip
        clear BK174 HB HI177
        refine steps_cons ?_ ?_
        · rintro b a w' ⟨v185, adz_v185, m7_, ha, Q_BK174, Q_HI177, Q_HB, Q_HI177_e1, Q_HI177_e3, Q_HO186, Q_HA_HO186, Q_HI177_e6, Q_HI177_e11, Q_BK174_e14, Q_X7_⟩ hb_ hon hoff
          refine ⟨_, rfl, fun K hK => ?_⟩
          have e7 : a.tmps[7]? = some (.pointer (some ⟨g177, 0, none⟩)) := by rw [ha]; exact (putSel_off rfl).trans rfl
          replace ha := Aside0.mk ha
          have BK174 := Aside0.mk (Q_BK174 (hoff 14 (by kernel_rfl)))
          have HI177 := Aside0.mk (Q_HI177 hb_)
          have HB := Aside0.mk Q_HB
          refine goes_ Try.func60 (by kernel_rfl) rfl #[.pointer (some ⟨g177, 0, none⟩), .int .i64 12] (by rfl) rfl rfl (by first | (simp only [List.map_toArray, List.map_cons, List.map_nil, Act.eval, Array.getD_eq_getD_getElem?, Option.getD_some, e7]; done) | (simp only [List.map_toArray, List.map_cons, List.map_nil, Act.eval, Array.getD_eq_getD_getElem?, Option.getD_some, e7]; rfl)) ?_
          with_reducible refine (spec_l20Clock.calls k g177 t175 t176 12 t178 t179 t180 t181 w _ ?side1 ?side2 A3.out).mono ?_
          (case side1 => repeat (first | (with_reducible first | exact HI177.out | apply IsS72.alloc | apply IsS72.drewN | apply IsS72.drew | apply IsS72.set_1 | refine IsS72.far ?_ NB177_174.out _) | exact HI177.out))
          (case side2 => repeat (first | (with_reducible first | exact HB.out | apply below_alloc | apply pw_below_drewN | apply below_drew1 | refine below_set ?_ (IsS72.ge HI177.out) | refine below_set ?_ GE174.out) | exact HB.out))
          rintro e w12 ⟨rfl, hi, hb, hk⟩
          refine ⟨_, rfl, ?_⟩
          have n0_ := Aside0.mk (KeepBut.blk hk (g' := gb174) (o := .cells #[.int .i64 0, .int .i64 0, .int .i64 0] 30 (0, 0)) (by (with_reducible repeat (first | refine blk_drewN ?_ _ | refine blk_drew ?_ | refine blk_alloc ?_ _)); exact BK174.out) NB174_177.out (by simp))
          have n1_ := Aside0.mk (hb)
          have n2_ := Aside0.mk (hi)
          have z_HO186 := fun (h0_ : b 4 = true) => (show Kd.R (Kd.int .i64) 3 w12 w.heap.size (fun _ => True) v185 y184 from by first | exact (Kd.R_mono (Kd.R_keep (IsS72.apart (show IsS72 w _ g177 t175 t176 from by repeat (first | (with_reducible first | exact HI177.out | apply IsS72.alloc | apply IsS72.drewN | apply IsS72.drew | apply IsS72.set_1 | refine IsS72.far ?_ NB177_174.out _) | exact HI177.out)) (by (with_reducible repeat (first | apply Kd.R_alloc | apply Kd.R_drewN | apply Kd.R_drew)); exact (Q_HO186 h0_)) (by decide)) hk (fun _ h => h.2)) (fun _ h => h.1)) | exact Kd.R_mono (Kd.R_mono (Kd.R_keep (IsS72.apart (show IsS72 w _ g177 t175 t176 from by repeat (first | (with_reducible first | exact HI177.out | apply IsS72.alloc | apply IsS72.drewN | apply IsS72.drew | apply IsS72.set_1 | refine IsS72.far ?_ NB177_174.out _) | exact HI177.out)) (by (with_reducible repeat (first | apply Kd.R_alloc | apply Kd.R_drewN | apply Kd.R_drew)); exact (Q_HO186 h0_)) (by decide)) hk (fun _ h => h.2)) (fun _ h => h.1)) (fun _ h_ => by first | trivial | exact h_ | exact h_.1))
          clear BK174
          clear HB
          clear HI177
          have BK174 := n0_
          have HB := n1_
          have HI177 := n2_
          clear n0_ n1_ n2_
          (try clear hb)
          (try clear hb2)
          (try clear hk)
          (try clear hi)
          refine hK.out _ _ ⟨v185, adz_v185, m7_, (by rw [ha.out]; exact putSel_upk 0 hb_ rfl rfl rfl), fun _ => (by (with_reducible repeat (first | refine blk_drewN ?_ _ | refine blk_drew ?_ | refine blk_alloc ?_ _)); exact BK174.out), fun h0_ => absurd ((up_self b 1).symm.trans h0_) (by decide), (by repeat (first | (with_reducible first | exact HB.out | apply below_alloc | apply pw_below_drewN | apply below_drew1 | refine below_set ?_ (IsS72.ge HI177.out) | refine below_set ?_ GE174.out) | exact HB.out)), fun _ _ => (by repeat (first | (with_reducible first | exact HI177.out | apply IsS72.alloc | apply IsS72.drewN | apply IsS72.drew | apply IsS72.set_1 | refine IsS72.far ?_ NB177_174.out _) | exact HI177.out)), fun h0_ _ => absurd ((hoff 3 (by kernel_rfl)).symm.trans h0_) (by decide), z_HO186, Q_HA_HO186, fun h0_ _ => absurd ((hoff 6 (by kernel_rfl)).symm.trans h0_) (by decide), fun h0_ => absurd ((hoff 11 (by kernel_rfl)).symm.trans h0_) (by decide), fun h0_ => absurd ((hoff 14 (by kernel_rfl)).symm.trans h0_) (by decide), fun h0_ => absurd ((hoff 7 (by kernel_rfl)).symm.trans h0_) (by decide)⟩
        refine steps_cons ?_ ?_
        · rintro b a w' ⟨v185, adz_v185, m7_, ha, Q_BK174, Q_HI177, Q_HB, Q_HI177_e1, Q_HI177_e3, Q_HO186, Q_HA_HO186, Q_HI177_e6, Q_HI177_e11, Q_BK174_e14, Q_X7_⟩ hb_ hon hoff
          refine ⟨_, rfl, fun K hK => ?_⟩
          have e9 : a.tmps[9]? = some (.pointer (some ⟨g177, 0, none⟩)) := by rw [ha]; exact (putSel_off rfl).trans rfl
          replace ha := Aside0.mk ha
          have BK174 := Aside0.mk (Q_BK174 (hoff 14 (by kernel_rfl)))
          have HB := Aside0.mk Q_HB
          have HI177 := Aside0.mk (Q_HI177_e1 (hon 1 (by kernel_rfl)) hb_)
          refine goes_ Try.func59 (by kernel_rfl) rfl #[.pointer (some ⟨g177, 0, none⟩), .int .i64 256] (by rfl) rfl rfl (by first | (simp only [List.map_toArray, List.map_cons, List.map_nil, Act.eval, Array.getD_eq_getD_getElem?, Option.getD_some, e9]; done) | (simp only [List.map_toArray, List.map_cons, List.map_nil, Act.eval, Array.getD_eq_getD_getElem?, Option.getD_some, e9]; rfl)) ?_
          with_reducible refine (spec_l20Rd_pick.calls k g177 t175 t181 256 t182 t183 w _ ?side1 ?side2 A4.out).mono ?_
          (case side1 => repeat (first | (with_reducible first | exact HI177.out | apply IsS72.alloc | apply IsS72.drewN | apply IsS72.drew | apply IsS72.set_1 | refine IsS72.far ?_ NB177_174.out _) | exact HI177.out))
          (case side2 => repeat (first | (with_reducible first | exact HB.out | apply below_alloc | apply pw_below_drewN | apply below_drew1 | refine below_set ?_ (IsS72.ge HI177.out) | refine below_set ?_ GE174.out) | exact HB.out))
          rintro e w14 ⟨rfl, hi, hb, hk⟩
          refine ⟨_, rfl, ?_⟩
          have n0_ := Aside0.mk (KeepBut.blk hk (g' := gb174) (o := .cells #[.int .i64 0, .int .i64 0, .int .i64 0] 30 (0, 0)) (by (with_reducible repeat (first | refine blk_drewN ?_ _ | refine blk_drew ?_ | refine blk_alloc ?_ _)); exact BK174.out) NB174_177.out (by simp))
          have n1_ := Aside0.mk (hb)
          have n2_ := Aside0.mk (hi)
          have z_HO186 := fun (h0_ : b 4 = true) => (show Kd.R (Kd.int .i64) 3 w14 w.heap.size (fun _ => True) v185 y184 from by first | exact (Kd.R_mono (Kd.R_keep (IsS72.apart (show IsS72 w _ g177 t175 t181 from by repeat (first | (with_reducible first | exact HI177.out | apply IsS72.alloc | apply IsS72.drewN | apply IsS72.drew | apply IsS72.set_1 | refine IsS72.far ?_ NB177_174.out _) | exact HI177.out)) (by (with_reducible repeat (first | apply Kd.R_alloc | apply Kd.R_drewN | apply Kd.R_drew)); exact (Q_HO186 h0_)) (by decide)) hk (fun _ h => h.2)) (fun _ h => h.1)) | exact Kd.R_mono (Kd.R_mono (Kd.R_keep (IsS72.apart (show IsS72 w _ g177 t175 t181 from by repeat (first | (with_reducible first | exact HI177.out | apply IsS72.alloc | apply IsS72.drewN | apply IsS72.drew | apply IsS72.set_1 | refine IsS72.far ?_ NB177_174.out _) | exact HI177.out)) (by (with_reducible repeat (first | apply Kd.R_alloc | apply Kd.R_drewN | apply Kd.R_drew)); exact (Q_HO186 h0_)) (by decide)) hk (fun _ h => h.2)) (fun _ h => h.1)) (fun _ h_ => by first | trivial | exact h_ | exact h_.1))
          clear BK174
          clear HB
          clear HI177
          have BK174 := n0_
          have HB := n1_
          have HI177 := n2_
          clear n0_ n1_ n2_
          (try clear hb)
          (try clear hb2)
          (try clear hk)
          (try clear hi)
          refine hK.out _ _ ⟨v185, adz_v185, m7_, (by rw [ha.out]; exact putSel_upk 1 hb_ rfl rfl rfl), fun _ => (by (with_reducible repeat (first | refine blk_drewN ?_ _ | refine blk_drew ?_ | refine blk_alloc ?_ _)); exact BK174.out), fun h0_ => absurd ((hon 1 (by kernel_rfl)).symm.trans h0_) (by decide), (by repeat (first | (with_reducible first | exact HB.out | apply below_alloc | apply pw_below_drewN | apply below_drew1 | refine below_set ?_ (IsS72.ge HI177.out) | refine below_set ?_ GE174.out) | exact HB.out)), fun _ h1_ => absurd ((up_self b 3).symm.trans h1_) (by decide), fun _ _ => (by repeat (first | (with_reducible first | exact HI177.out | apply IsS72.alloc | apply IsS72.drewN | apply IsS72.drew | apply IsS72.set_1 | refine IsS72.far ?_ NB177_174.out _) | exact HI177.out)), z_HO186, Q_HA_HO186, fun h0_ _ => absurd ((hoff 6 (by kernel_rfl)).symm.trans h0_) (by decide), fun h0_ => absurd ((hoff 11 (by kernel_rfl)).symm.trans h0_) (by decide), fun h0_ => absurd ((hoff 14 (by kernel_rfl)).symm.trans h0_) (by decide), fun h0_ => absurd ((hoff 7 (by kernel_rfl)).symm.trans h0_) (by decide)⟩
        refine steps_cons ?_ ?_
        · rintro b a w' ⟨v185, adz_v185, m7_, ha, Q_BK174, Q_HI177, Q_HB, Q_HI177_e1, Q_HI177_e3, Q_HO186, Q_HA_HO186, Q_HI177_e6, Q_HI177_e11, Q_BK174_e14, Q_X7_⟩ hb_ hon hoff
          refine ⟨_, rfl, fun K hK => ?_⟩
          replace ha := Aside0.mk ha
          have HB := Aside0.mk Q_HB
          refine Kd.R_lit_step (Kd.int .i64) _ 3 ?hg (N := 11) ?hd (xs := ([0, 1, 1, 40] : List Int)) (inner := [.int .i64 0, .int .i64 1, .int .i64 1, .int .i64 40]) (ok := fun _ => True) (okp := fun _ => True) ?hr ?hp (fun _ hk => hk) trivial (Below.refl _ _) (Nat.le_refl _) (by simp) ?_; (case hd => rfl); (case hg => rfl); (case hr => first | (go_simp; done) | (go_simp; rfl)); (case hp => exact (Reps.one (show Kd.M (Kd.int .i64) _ _ _ 0 [.int .i64 0] from rfl) (Reps.one (show Kd.M (Kd.int .i64) _ _ _ 1 [.int .i64 1] from rfl) (Reps.one (show Kd.M (Kd.int .i64) _ _ _ 1 [.int .i64 1] from rfl) (Reps.one (show Kd.M (Kd.int .i64) _ _ _ 40 [.int .i64 40] from rfl) (Reps.none _ _))))))
          intro v185 w12 ho13 hb hg_ hnew_
          clear hg_ hnew_
          (first | rw [← Ny184.out] at ho13 | (simp only [Int.reduceToNat] at ho13; rw [← Ny184.out] at ho13))
          have n0_ := Aside0.mk (Kd.R_lower ho13 (below_size (by repeat (first | (with_reducible first | exact HB.out | apply below_alloc | apply pw_below_drewN | apply below_drew1 | refine below_set ?_ GE174.out) | exact HB.out))))
          have n3_ := Aside0.mk (below_step (by repeat (first | (with_reducible first | exact HB.out | apply below_alloc | apply pw_below_drewN | apply below_drew1 | refine below_set ?_ GE174.out) | exact HB.out)) hb)
          have z_BK174 := fun (h0_ : b 14 = false) => (show w12.heap[gb174]? = some (.cells #[.int .i64 0, .int .i64 0, .int .i64 0] 30 (0, 0)) from by first | exact (blk_below (g := gb174) (o := .cells #[.int .i64 0, .int .i64 0, .int .i64 0] 30 (0, 0)) (by (with_reducible repeat (first | refine blk_drewN ?_ _ | refine blk_drew ?_ | refine blk_alloc ?_ _)); exact (Q_BK174 h0_)) hb))
          have z_HI177 := fun (h0_ : b 1 = false) => (show IsS72 w w12 g177 t175 t176 from by first | exact (IsS72.below (by repeat (first | (with_reducible first | exact (Q_HI177 h0_) | apply IsS72.alloc | apply IsS72.drewN | apply IsS72.drew | apply IsS72.set_1 | refine IsS72.far ?_ NB177_174.out _) | exact (Q_HI177 h0_))) hb))
          have z_HI177_e1 := fun (h0_ : b 1 = true) (h1_ : b 3 = false) => (show IsS72 w w12 g177 t175 t181 from by first | exact (IsS72.below (by repeat (first | (with_reducible first | exact (Q_HI177_e1 h0_ h1_) | apply IsS72.alloc | apply IsS72.drewN | apply IsS72.drew | apply IsS72.set_1 | refine IsS72.far ?_ NB177_174.out _) | exact (Q_HI177_e1 h0_ h1_))) hb))
          have z_HI177_e3 := fun (h0_ : b 3 = true) (h1_ : b 6 = false) => (show IsS72 w w12 g177 t175 t183 from by first | exact (IsS72.below (by repeat (first | (with_reducible first | exact (Q_HI177_e3 h0_ h1_) | apply IsS72.alloc | apply IsS72.drewN | apply IsS72.drew | apply IsS72.set_1 | refine IsS72.far ?_ NB177_174.out _) | exact (Q_HI177_e3 h0_ h1_))) hb))
          have z_HI177_e6 := fun (h0_ : b 6 = true) (h1_ : b 11 = false) => (show IsS72 w w12 g177 t175 t188 from by first | exact (IsS72.below (by repeat (first | (with_reducible first | exact (Q_HI177_e6 h0_ h1_) | apply IsS72.alloc | apply IsS72.drewN | apply IsS72.drew | apply IsS72.set_1 | refine IsS72.far ?_ NB177_174.out _) | exact (Q_HI177_e6 h0_ h1_))) hb))
          have z_HI177_e11 := fun (h0_ : b 11 = true) => (show IsS72 w w12 g177 t175 t191 from by first | exact (IsS72.below (by repeat (first | (with_reducible first | exact (Q_HI177_e11 h0_) | apply IsS72.alloc | apply IsS72.drewN | apply IsS72.drew | apply IsS72.set_1 | refine IsS72.far ?_ NB177_174.out _) | exact (Q_HI177_e11 h0_))) hb))
          have z_BK174_e14 := fun (h0_ : b 14 = true) => (show w12.heap[gb174]? = some (.cells #[.int .i64 t178, .int .i64 t179, .int .i64 t180] 30 (0, 0)) from by first | exact (blk_below (g := gb174) (o := .cells #[.int .i64 t178, .int .i64 t179, .int .i64 t180] 30 (0, 0)) (by (with_reducible repeat (first | refine blk_drewN ?_ _ | refine blk_drew ?_ | refine blk_alloc ?_ _)); exact (Q_BK174_e14 h0_)) hb))
          clear HB
          have HO186 := n0_
          have HB := n3_
          clear n0_ n3_
          clear hb ho13
          obtain ⟨Ao14, co14, eo14⟩ := Kd.R_slice HO186.out
          subst eo14
          obtain ⟨ado14, fo14, _⟩ := Kd.at_int (Kd.R_reads' HO186.out).2.2 0 (by decide) (by rw [Ny184.out]; simp)
          cases fo14
          refine hK.out _ _ ⟨.slice (some ado14) y184.length co14, ado14, m7_, (by rw [ha.out]; exact putSel_upk 2 hb_ rfl rfl rfl), z_BK174, z_HI177, (by repeat (first | (with_reducible first | exact HB.out | apply below_alloc | apply pw_below_drewN | apply below_drew1 | refine below_set ?_ GE174.out) | exact HB.out)), z_HI177_e1, z_HI177_e3, fun _ => (by (with_reducible repeat (first | apply Kd.R_alloc | apply Kd.R_drewN | apply Kd.R_drew)); exact HO186.out), fun _ => ⟨_, rfl⟩, z_HI177_e6, z_HI177_e11, z_BK174_e14, fun h0_ => absurd ((hoff 7 (by kernel_rfl)).symm.trans h0_) (by decide)⟩
        refine steps_cons ?_ ?_
        · rintro b a w' ⟨v185, adz_v185, m7_, ha, Q_BK174, Q_HI177, Q_HB, Q_HI177_e1, Q_HI177_e3, Q_HO186, Q_HA_HO186, Q_HI177_e6, Q_HI177_e11, Q_BK174_e14, Q_X7_⟩ hb_ hon hoff
          refine ⟨_, rfl, fun K hK => ?_⟩
          have e12 : a.tmps[12]? = some (.pointer (some ⟨g177, 0, none⟩)) := by rw [ha]; exact (putSel_off rfl).trans rfl
          replace ha := Aside0.mk ha
          have BK174 := Aside0.mk (Q_BK174 (hoff 14 (by kernel_rfl)))
          have HB := Aside0.mk Q_HB
          have HI177 := Aside0.mk (Q_HI177_e3 (hon 3 (by kernel_rfl)) hb_)
          refine goes_ Try.func59 (by kernel_rfl) rfl #[.pointer (some ⟨g177, 0, none⟩), .int .i64 4] (by rfl) rfl rfl (by first | (simp only [List.map_toArray, List.map_cons, List.map_nil, Act.eval, Array.getD_eq_getD_getElem?, Option.getD_some, e12]; done) | (simp only [List.map_toArray, List.map_cons, List.map_nil, Act.eval, Array.getD_eq_getD_getElem?, Option.getD_some, e12]; rfl)) ?_
          with_reducible refine (spec_l20Rd_pick.calls k g177 t175 t183 4 t187 t188 w _ ?side1 ?side2 A5.out).mono ?_
          (case side1 => repeat (first | (with_reducible first | exact HI177.out | apply IsS72.alloc | apply IsS72.drewN | apply IsS72.drew | apply IsS72.set_1 | refine IsS72.far ?_ NB177_174.out _) | exact HI177.out))
          (case side2 => repeat (first | (with_reducible first | exact HB.out | apply below_alloc | apply pw_below_drewN | apply below_drew1 | refine below_set ?_ (IsS72.ge HI177.out) | refine below_set ?_ GE174.out) | exact HB.out))
          rintro e w15 ⟨rfl, hi, hb, hk⟩
          refine ⟨_, rfl, ?_⟩
          have n0_ := Aside0.mk (KeepBut.blk hk (g' := gb174) (o := .cells #[.int .i64 0, .int .i64 0, .int .i64 0] 30 (0, 0)) (by (with_reducible repeat (first | refine blk_drewN ?_ _ | refine blk_drew ?_ | refine blk_alloc ?_ _)); exact BK174.out) NB174_177.out (by simp))
          have n1_ := Aside0.mk (hb)
          have n2_ := Aside0.mk (hi)
          have z_HO186 := fun (h0_ : b 4 = true) => (show Kd.R (Kd.int .i64) 3 w15 w.heap.size (fun _ => True) v185 y184 from by first | exact (Kd.R_mono (Kd.R_keep (IsS72.apart (show IsS72 w _ g177 t175 t183 from by repeat (first | (with_reducible first | exact HI177.out | apply IsS72.alloc | apply IsS72.drewN | apply IsS72.drew | apply IsS72.set_1 | refine IsS72.far ?_ NB177_174.out _) | exact HI177.out)) (by (with_reducible repeat (first | apply Kd.R_alloc | apply Kd.R_drewN | apply Kd.R_drew)); exact (Q_HO186 h0_)) (by decide)) hk (fun _ h => h.2)) (fun _ h => h.1)) | exact Kd.R_mono (Kd.R_mono (Kd.R_keep (IsS72.apart (show IsS72 w _ g177 t175 t183 from by repeat (first | (with_reducible first | exact HI177.out | apply IsS72.alloc | apply IsS72.drewN | apply IsS72.drew | apply IsS72.set_1 | refine IsS72.far ?_ NB177_174.out _) | exact HI177.out)) (by (with_reducible repeat (first | apply Kd.R_alloc | apply Kd.R_drewN | apply Kd.R_drew)); exact (Q_HO186 h0_)) (by decide)) hk (fun _ h => h.2)) (fun _ h => h.1)) (fun _ h_ => by first | trivial | exact h_ | exact h_.1))
          clear BK174
          clear HB
          clear HI177
          have BK174 := n0_
          have HB := n1_
          have HI177 := n2_
          clear n0_ n1_ n2_
          (try clear hb)
          (try clear hb2)
          (try clear hk)
          (try clear hi)
          refine hK.out _ _ ⟨v185, adz_v185, m7_, (by rw [ha.out]; exact putSel_upk 3 hb_ rfl rfl rfl), fun _ => (by (with_reducible repeat (first | refine blk_drewN ?_ _ | refine blk_drew ?_ | refine blk_alloc ?_ _)); exact BK174.out), fun h0_ => absurd ((hon 1 (by kernel_rfl)).symm.trans h0_) (by decide), (by repeat (first | (with_reducible first | exact HB.out | apply below_alloc | apply pw_below_drewN | apply below_drew1 | refine below_set ?_ (IsS72.ge HI177.out) | refine below_set ?_ GE174.out) | exact HB.out)), fun _ h1_ => absurd ((hon 3 (by kernel_rfl)).symm.trans h1_) (by decide), fun _ h1_ => absurd ((up_self b 6).symm.trans h1_) (by decide), z_HO186, Q_HA_HO186, fun _ _ => (by repeat (first | (with_reducible first | exact HI177.out | apply IsS72.alloc | apply IsS72.drewN | apply IsS72.drew | apply IsS72.set_1 | refine IsS72.far ?_ NB177_174.out _) | exact HI177.out)), fun h0_ => absurd ((hoff 11 (by kernel_rfl)).symm.trans h0_) (by decide), fun h0_ => absurd ((hoff 14 (by kernel_rfl)).symm.trans h0_) (by decide), fun h0_ => absurd ((hoff 7 (by kernel_rfl)).symm.trans h0_) (by decide)⟩
        refine steps_cons ?_ ?_
        · rintro b a w' ⟨v185, adz_v185, m7_, ha, Q_BK174, Q_HI177, Q_HB, Q_HI177_e1, Q_HI177_e3, Q_HO186, Q_HA_HO186, Q_HI177_e6, Q_HI177_e11, Q_BK174_e14, Q_X7_⟩ hb_ hon hoff
          refine ⟨_, rfl, fun K hK => ?_⟩
          have e11 : a.tmps[11]? = some (v185) := by rw [ha]; exact putSel_on (e := (4, 11, v185)) 2 rfl rfl (hon 4 (by kernel_rfl)) rfl
          have e13 : a.tmps[13]? = some (.int .i64 t187) := by rw [ha]; exact putSel_on (e := (6, 13, .int .i64 t187)) 3 rfl rfl (hon 6 (by kernel_rfl)) rfl
          replace ha := Aside0.mk ha
          have HB := Aside0.mk Q_HB
          have HO186 := Aside0.mk (Q_HO186 (hon 4 (by kernel_rfl)))
          have HA_HO186 := Aside0.mk (Q_HA_HO186 (hon 4 (by kernel_rfl)))
          obtain ⟨c_, hv_⟩ := HA_HO186.out
          rw [hv_] at e11
          refine value_ (w1 := w') (v := .pointer (some (adz_v185.add (t187).toNat))) (by rfl) rfl ?_ ?_
          · go_simp
            (try simp only [i64_w])
            try rfl
          refine hK.out _ _ ⟨v185, adz_v185, (.pointer (some (adz_v185.add (t187).toNat))), (by rw [ha.out]; exact putSel_upk 4 hb_ rfl rfl rfl), Q_BK174, fun h0_ => absurd ((hon 1 (by kernel_rfl)).symm.trans h0_) (by decide), Q_HB, fun _ h1_ => absurd ((hon 3 (by kernel_rfl)).symm.trans h1_) (by decide), fun _ h1_ => absurd ((hon 6 (by kernel_rfl)).symm.trans h1_) (by decide), Q_HO186, Q_HA_HO186, Q_HI177_e6, Q_HI177_e11, Q_BK174_e14, fun _ => rfl⟩
        refine steps_cons ?_ ?_
        · rintro b a w' ⟨v185, adz_v185, m7_, ha, Q_BK174, Q_HI177, Q_HB, Q_HI177_e1, Q_HI177_e3, Q_HO186, Q_HA_HO186, Q_HI177_e6, Q_HI177_e11, Q_BK174_e14, Q_X7_⟩ hb_ hon hoff
          refine ⟨_, rfl, fun K hK => ?_⟩
          have e14 : a.tmps[14]? = some (m7_) := by rw [ha]; exact putSel_on (e := (7, 14, m7_)) 4 rfl rfl (hon 7 (by kernel_rfl)) rfl
          rw [Q_X7_ (hon 7 (by kernel_rfl))] at e14
          replace ha := Aside0.mk ha
          have HB := Aside0.mk Q_HB
          have HO186 := Aside0.mk (Q_HO186 (hon 4 (by kernel_rfl)))
          have HA_HO186 := Aside0.mk (Q_HA_HO186 (hon 4 (by kernel_rfl)))
          obtain ⟨c_, hv_⟩ := HA_HO186.out
          have hF_ := HO186.out
          rw [hv_] at hF_
          obtain ⟨ad_, ea_, hx_⟩ := Kd.at_int (Kd.R_reads' hF_).2.2 t187 (of_eq_true pi189) (of_eq_true qi189)
          cases ea_
          refine value_ (w1 := w') (v := .int .i64 (rd y184 t187)) (by rfl) rfl ?_ ?_
          · go_simp
            (try simp only [i64_w])
            try rfl
          refine hK.out _ _ ⟨v185, adz_v185, m7_, (by rw [ha.out]; exact putSel_upk 5 hb_ rfl rfl rfl), Q_BK174, fun h0_ => absurd ((hon 1 (by kernel_rfl)).symm.trans h0_) (by decide), Q_HB, fun _ h1_ => absurd ((hon 3 (by kernel_rfl)).symm.trans h1_) (by decide), fun _ h1_ => absurd ((hon 6 (by kernel_rfl)).symm.trans h1_) (by decide), Q_HO186, Q_HA_HO186, Q_HI177_e6, Q_HI177_e11, Q_BK174_e14, Q_X7_⟩
        refine steps_cons ?_ ?_
        · rintro b a w' ⟨v185, adz_v185, m7_, ha, Q_BK174, Q_HI177, Q_HB, Q_HI177_e1, Q_HI177_e3, Q_HO186, Q_HA_HO186, Q_HI177_e6, Q_HI177_e11, Q_BK174_e14, Q_X7_⟩ hb_ hon hoff
          refine ⟨_, rfl, fun K hK => ?_⟩
          have e10 : a.tmps[10]? = some (.int .i64 t182) := by rw [ha]; exact putSel_on (e := (3, 10, .int .i64 t182)) 1 rfl rfl (hon 3 (by kernel_rfl)) rfl
          have e15 : a.tmps[15]? = some (.int .i64 (rd y184 t187)) := by rw [ha]; exact putSel_on (e := (8, 15, .int .i64 (rd y184 t187))) 5 rfl rfl (hon 8 (by kernel_rfl)) rfl
          replace ha := Aside0.mk ha
          have HB := Aside0.mk Q_HB
          have HO186 := Aside0.mk (Q_HO186 (hon 4 (by kernel_rfl)))
          have HA_HO186 := Aside0.mk (Q_HA_HO186 (hon 4 (by kernel_rfl)))
          refine value_ (w1 := w') (v := .int .i64 (wrap64 (t182 * (rd y184 t187)))) (by rfl) rfl ?_ ?_
          · go_simp
            (try simp only [i64_w])
            try rfl
          refine hK.out _ _ ⟨v185, adz_v185, m7_, (by rw [ha.out]; exact putSel_upk 6 hb_ rfl rfl rfl), Q_BK174, fun h0_ => absurd ((hon 1 (by kernel_rfl)).symm.trans h0_) (by decide), Q_HB, fun _ h1_ => absurd ((hon 3 (by kernel_rfl)).symm.trans h1_) (by decide), fun _ h1_ => absurd ((hon 6 (by kernel_rfl)).symm.trans h1_) (by decide), Q_HO186, Q_HA_HO186, Q_HI177_e6, Q_HI177_e11, Q_BK174_e14, Q_X7_⟩
        refine steps_cons ?_ ?_
        · rintro b a w' ⟨v185, adz_v185, m7_, ha, Q_BK174, Q_HI177, Q_HB, Q_HI177_e1, Q_HI177_e3, Q_HO186, Q_HA_HO186, Q_HI177_e6, Q_HI177_e11, Q_BK174_e14, Q_X7_⟩ hb_ hon hoff
          refine ⟨_, rfl, fun K hK => ?_⟩
          have e17 : a.tmps[17]? = some (.pointer (some ⟨g177, 0, none⟩)) := by rw [ha]; exact (putSel_off rfl).trans rfl
          replace ha := Aside0.mk ha
          have BK174 := Aside0.mk (Q_BK174 (hoff 14 (by kernel_rfl)))
          have HB := Aside0.mk Q_HB
          have HI177 := Aside0.mk (Q_HI177_e6 (hon 6 (by kernel_rfl)) hb_)
          refine goes_ Try.func59 (by kernel_rfl) rfl #[.pointer (some ⟨g177, 0, none⟩), .int .i64 20] (by rfl) rfl rfl (by first | (simp only [List.map_toArray, List.map_cons, List.map_nil, Act.eval, Array.getD_eq_getD_getElem?, Option.getD_some, e17]; done) | (simp only [List.map_toArray, List.map_cons, List.map_nil, Act.eval, Array.getD_eq_getD_getElem?, Option.getD_some, e17]; rfl)) ?_
          with_reducible refine (spec_l20Rd_pick.calls k g177 t175 t188 20 t190 t191 w _ ?side1 ?side2 A8.out).mono ?_
          (case side1 => repeat (first | (with_reducible first | exact HI177.out | apply IsS72.alloc | apply IsS72.drewN | apply IsS72.drew | apply IsS72.set_1 | refine IsS72.far ?_ NB177_174.out _) | exact HI177.out))
          (case side2 => repeat (first | (with_reducible first | exact HB.out | apply below_alloc | apply pw_below_drewN | apply below_drew1 | refine below_set ?_ (IsS72.ge HI177.out) | refine below_set ?_ GE174.out) | exact HB.out))
          rintro e w16 ⟨rfl, hi, hb, hk⟩
          refine ⟨_, rfl, ?_⟩
          have n0_ := Aside0.mk (KeepBut.blk hk (g' := gb174) (o := .cells #[.int .i64 0, .int .i64 0, .int .i64 0] 30 (0, 0)) (by (with_reducible repeat (first | refine blk_drewN ?_ _ | refine blk_drew ?_ | refine blk_alloc ?_ _)); exact BK174.out) NB174_177.out (by simp))
          have n1_ := Aside0.mk (hb)
          have n2_ := Aside0.mk (hi)
          have z_HO186 := fun (h0_ : b 4 = true) => (show Kd.R (Kd.int .i64) 3 w16 w.heap.size (fun _ => True) v185 y184 from by first | exact (Kd.R_mono (Kd.R_keep (IsS72.apart (show IsS72 w _ g177 t175 t188 from by repeat (first | (with_reducible first | exact HI177.out | apply IsS72.alloc | apply IsS72.drewN | apply IsS72.drew | apply IsS72.set_1 | refine IsS72.far ?_ NB177_174.out _) | exact HI177.out)) (by (with_reducible repeat (first | apply Kd.R_alloc | apply Kd.R_drewN | apply Kd.R_drew)); exact (Q_HO186 h0_)) (by decide)) hk (fun _ h => h.2)) (fun _ h => h.1)) | exact Kd.R_mono (Kd.R_mono (Kd.R_keep (IsS72.apart (show IsS72 w _ g177 t175 t188 from by repeat (first | (with_reducible first | exact HI177.out | apply IsS72.alloc | apply IsS72.drewN | apply IsS72.drew | apply IsS72.set_1 | refine IsS72.far ?_ NB177_174.out _) | exact HI177.out)) (by (with_reducible repeat (first | apply Kd.R_alloc | apply Kd.R_drewN | apply Kd.R_drew)); exact (Q_HO186 h0_)) (by decide)) hk (fun _ h => h.2)) (fun _ h => h.1)) (fun _ h_ => by first | trivial | exact h_ | exact h_.1))
          clear BK174
          clear HB
          clear HI177
          have BK174 := n0_
          have HB := n1_
          have HI177 := n2_
          clear n0_ n1_ n2_
          (try clear hb)
          (try clear hb2)
          (try clear hk)
          (try clear hi)
          refine hK.out _ _ ⟨v185, adz_v185, m7_, (by rw [ha.out]; exact putSel_upk 7 hb_ rfl rfl rfl), fun _ => (by (with_reducible repeat (first | refine blk_drewN ?_ _ | refine blk_drew ?_ | refine blk_alloc ?_ _)); exact BK174.out), fun h0_ => absurd ((hon 1 (by kernel_rfl)).symm.trans h0_) (by decide), (by repeat (first | (with_reducible first | exact HB.out | apply below_alloc | apply pw_below_drewN | apply below_drew1 | refine below_set ?_ (IsS72.ge HI177.out) | refine below_set ?_ GE174.out) | exact HB.out)), fun _ h1_ => absurd ((hon 3 (by kernel_rfl)).symm.trans h1_) (by decide), fun _ h1_ => absurd ((hon 6 (by kernel_rfl)).symm.trans h1_) (by decide), z_HO186, Q_HA_HO186, fun _ h1_ => absurd ((up_self b 11).symm.trans h1_) (by decide), fun _ => (by repeat (first | (with_reducible first | exact HI177.out | apply IsS72.alloc | apply IsS72.drewN | apply IsS72.drew | apply IsS72.set_1 | refine IsS72.far ?_ NB177_174.out _) | exact HI177.out)), fun h0_ => absurd ((hoff 14 (by kernel_rfl)).symm.trans h0_) (by decide), Q_X7_⟩
        refine steps_cons ?_ ?_
        · rintro b a w' ⟨v185, adz_v185, m7_, ha, Q_BK174, Q_HI177, Q_HB, Q_HI177_e1, Q_HI177_e3, Q_HO186, Q_HA_HO186, Q_HI177_e6, Q_HI177_e11, Q_BK174_e14, Q_X7_⟩ hb_ hon hoff
          refine ⟨_, rfl, fun K hK => ?_⟩
          have e18 : a.tmps[18]? = some (.int .i64 t190) := by rw [ha]; exact putSel_on (e := (11, 18, .int .i64 t190)) 7 rfl rfl (hon 11 (by kernel_rfl)) rfl
          replace ha := Aside0.mk ha
          have HB := Aside0.mk Q_HB
          have HI177 := Aside0.mk (Q_HI177_e11 (hon 11 (by kernel_rfl)))
          refine value_ (w1 := w') (v := .int .i64 (wrap64 (Int.tdiv t190 19))) (by rfl) rfl ?_ ?_
          · go_simp
            (try simp only [i64_w])
            try rfl
          refine hK.out _ _ ⟨v185, adz_v185, m7_, (by rw [ha.out]; exact putSel_upk 8 hb_ rfl rfl rfl), Q_BK174, fun h0_ => absurd ((hon 1 (by kernel_rfl)).symm.trans h0_) (by decide), Q_HB, fun _ h1_ => absurd ((hon 3 (by kernel_rfl)).symm.trans h1_) (by decide), fun _ h1_ => absurd ((hon 6 (by kernel_rfl)).symm.trans h1_) (by decide), Q_HO186, Q_HA_HO186, fun _ h1_ => absurd ((hon 11 (by kernel_rfl)).symm.trans h1_) (by decide), Q_HI177_e11, Q_BK174_e14, Q_X7_⟩
        refine steps_cons ?_ ?_
        · rintro b a w' ⟨v185, adz_v185, m7_, ha, Q_BK174, Q_HI177, Q_HB, Q_HI177_e1, Q_HI177_e3, Q_HO186, Q_HA_HO186, Q_HI177_e6, Q_HI177_e11, Q_BK174_e14, Q_X7_⟩ hb_ hon hoff
          refine ⟨_, rfl, fun K hK => ?_⟩
          have e16 : a.tmps[16]? = some (.int .i64 (wrap64 (t182 * (rd y184 t187)))) := by rw [ha]; exact putSel_on (e := (9, 16, .int .i64 (wrap64 (t182 * (rd y184 t187))))) 6 rfl rfl (hon 9 (by kernel_rfl)) rfl
          have e19 : a.tmps[19]? = some (.int .i64 (wrap64 (Int.tdiv t190 19))) := by rw [ha]; exact putSel_on (e := (12, 19, .int .i64 (wrap64 (Int.tdiv t190 19)))) 8 rfl rfl (hon 12 (by kernel_rfl)) rfl
          replace ha := Aside0.mk ha
          have HB := Aside0.mk Q_HB
          have HO186 := Aside0.mk (Q_HO186 (hon 4 (by kernel_rfl)))
          have HA_HO186 := Aside0.mk (Q_HA_HO186 (hon 4 (by kernel_rfl)))
          have HI177 := Aside0.mk (Q_HI177_e11 (hon 11 (by kernel_rfl)))
          refine value_ (w1 := w') (v := .int .i64 (wrap64 ((wrap64 (t182 * (rd y184 t187))) - (wrap64 (Int.tdiv t190 19))))) (by rfl) rfl ?_ ?_
          · go_simp
            (try simp only [i64_w])
            try rfl
          refine hK.out _ _ ⟨v185, adz_v185, m7_, (by rw [ha.out]; exact putSel_upk 9 hb_ rfl rfl rfl), Q_BK174, fun h0_ => absurd ((hon 1 (by kernel_rfl)).symm.trans h0_) (by decide), Q_HB, fun _ h1_ => absurd ((hon 3 (by kernel_rfl)).symm.trans h1_) (by decide), fun _ h1_ => absurd ((hon 6 (by kernel_rfl)).symm.trans h1_) (by decide), Q_HO186, Q_HA_HO186, fun _ h1_ => absurd ((hon 11 (by kernel_rfl)).symm.trans h1_) (by decide), Q_HI177_e11, Q_BK174_e14, Q_X7_⟩
        refine steps_cons ?_ ?_
        · rintro b a w' ⟨v185, adz_v185, m7_, ha, Q_BK174, Q_HI177, Q_HB, Q_HI177_e1, Q_HI177_e3, Q_HO186, Q_HA_HO186, Q_HI177_e6, Q_HI177_e11, Q_BK174_e14, Q_X7_⟩ hb_ hon hoff
          refine ⟨_, rfl, fun K hK => ?_⟩
          have e2 : a.tmps[2]? = some (.pointer (some ⟨gb174, 0, none⟩)) := by rw [ha]; exact (putSel_off rfl).trans rfl
          have e8 : a.tmps[8]? = some (.agg #[.int .i64 t178, .int .i64 t179, .int .i64 t180]) := by rw [ha]; exact putSel_on (e := (1, 8, .agg #[.int .i64 t178, .int .i64 t179, .int .i64 t180])) 0 rfl rfl (hon 1 (by kernel_rfl)) rfl
          replace ha := Aside0.mk ha
          have BK174 := Aside0.mk (Q_BK174 hb_)
          have HB := Aside0.mk Q_HB
          have HI177 := Aside0.mk (Q_HI177_e11 (hon 11 (by kernel_rfl)))
          have hs17 : w'.cell? ⟨gb174, 0, none⟩ = some (.int .i64 0) := (blk_cell BK174.out 0).trans rfl
          have hfs17 := blk_frozen BK174.out 0
          have hs18 : w'.cell? ⟨gb174, 1, none⟩ = some (.int .i64 0) := (blk_cell BK174.out 1).trans rfl
          have hfs18 := blk_frozen BK174.out 1
          have hs19 : w'.cell? ⟨gb174, 2, none⟩ = some (.int .i64 0) := (blk_cell BK174.out 2).trans rfl
          have hfs19 := blk_frozen BK174.out 2
          refine skip_ (w1 := ?_) (by rfl) rfl ?_ ?_
          rotate_left
          · go_simp
            rfl
          refine hK.out _ _ ⟨v185, adz_v185, m7_, (by rw [ha.out]; exact putSel_none (v := undef) rfl), fun h0_ => absurd ((up_self b 14).symm.trans h0_) (by decide), fun h0_ => absurd ((hon 1 (by kernel_rfl)).symm.trans h0_) (by decide), (by repeat (first | (with_reducible first | exact HB.out | apply below_alloc | apply pw_below_drewN | apply below_drew1 | refine below_set ?_ (IsS72.ge HI177.out) | refine below_set ?_ GE174.out) | exact HB.out)), fun _ h1_ => absurd ((hon 3 (by kernel_rfl)).symm.trans h1_) (by decide), fun _ h1_ => absurd ((hon 6 (by kernel_rfl)).symm.trans h1_) (by decide), fun h0_ => (by (with_reducible repeat (first | apply Kd.R_alloc | apply Kd.R_drewN | apply Kd.R_drew)); exact Kd.R_mono (Kd.R_far (p := ⟨gb174, 2, none⟩) (Kd.R_far (p := ⟨gb174, 1, none⟩) (Kd.R_far (p := ⟨gb174, 0, none⟩) (Kd.R_types (Q_HO186 h0_) BK174.out (by decide)) (fun _ hk => hk.2) (.int .i64 t178)) (fun _ hk => hk.2) (.int .i64 t179)) (fun _ hk => hk.2) (.int .i64 t180)) (fun _ hk => trivial)), Q_HA_HO186, fun _ h1_ => absurd ((hon 11 (by kernel_rfl)).symm.trans h1_) (by decide), fun _ => (by repeat (first | (with_reducible first | exact HI177.out | apply IsS72.alloc | apply IsS72.drewN | apply IsS72.drew | apply IsS72.set_1 | refine IsS72.far ?_ NB177_174.out _) | exact HI177.out)), fun _ => (by (with_reducible repeat (first | refine blk_drewN ?_ _ | refine blk_drew ?_ | refine blk_alloc ?_ _)); refine blk_put (cs := #[.int .i64 t178, .int .i64 t179, .int .i64 0]) ?_ 2 _ rfl; (with_reducible repeat (first | refine blk_drewN ?_ _ | refine blk_drew ?_ | refine blk_alloc ?_ _)); refine blk_put (cs := #[.int .i64 t178, .int .i64 0, .int .i64 0]) ?_ 1 _ rfl; (with_reducible repeat (first | refine blk_drewN ?_ _ | refine blk_drew ?_ | refine blk_alloc ?_ _)); refine blk_put (cs := #[.int .i64 0, .int .i64 0, .int .i64 0]) ?_ 0 _ rfl; (with_reducible repeat (first | refine blk_drewN ?_ _ | refine blk_drew ?_ | refine blk_alloc ?_ _)); exact BK174.out), Q_X7_⟩
        refine steps_cons ?_ ?_
        · rintro b a w' ⟨v185, adz_v185, m7_, ha, Q_BK174, Q_HI177, Q_HB, Q_HI177_e1, Q_HI177_e3, Q_HO186, Q_HA_HO186, Q_HI177_e6, Q_HI177_e11, Q_BK174_e14, Q_X7_⟩ hb_ hon hoff
          refine ⟨_, rfl, fun K hK => ?_⟩
          have e20 : a.tmps[20]? = some (.int .i64 (wrap64 ((wrap64 (t182 * (rd y184 t187))) - (wrap64 (Int.tdiv t190 19))))) := by rw [ha]; exact putSel_on (e := (13, 20, .int .i64 (wrap64 ((wrap64 (t182 * (rd y184 t187))) - (wrap64 (Int.tdiv t190 19)))))) 9 rfl rfl (hon 13 (by kernel_rfl)) rfl
          replace ha := Aside0.mk ha
          have HB := Aside0.mk Q_HB
          have HO186 := Aside0.mk (Q_HO186 (hon 4 (by kernel_rfl)))
          have HA_HO186 := Aside0.mk (Q_HA_HO186 (hon 4 (by kernel_rfl)))
          have HI177 := Aside0.mk (Q_HI177_e11 (hon 11 (by kernel_rfl)))
          have BK174 := Aside0.mk (Q_BK174_e14 (hon 14 (by kernel_rfl)))
          refine value_ (w1 := w') (v := .int .i64 (wrap64 ((wrap64 (t182 * (rd y184 t187))) - (wrap64 (Int.tdiv t190 19))))) (by rfl) rfl ?_ ?_
          · go_simp
            (try simp only [i64_w])
            try rfl
          refine hK.out _ _ ⟨v185, adz_v185, m7_, (by rw [ha.out]; exact putSel_upk 10 hb_ rfl rfl rfl), fun h0_ => absurd ((hon 14 (by kernel_rfl)).symm.trans h0_) (by decide), fun h0_ => absurd ((hon 1 (by kernel_rfl)).symm.trans h0_) (by decide), Q_HB, fun _ h1_ => absurd ((hon 3 (by kernel_rfl)).symm.trans h1_) (by decide), fun _ h1_ => absurd ((hon 6 (by kernel_rfl)).symm.trans h1_) (by decide), Q_HO186, Q_HA_HO186, fun _ h1_ => absurd ((hon 11 (by kernel_rfl)).symm.trans h1_) (by decide), Q_HI177_e11, Q_BK174_e14, Q_X7_⟩
        exact steps_nil
      rintro b a w22 hall ⟨v185, adz_v185, m7_, ha, Q_BK174, Q_HI177, Q_HB, Q_HI177_e1, Q_HI177_e3, Q_HO186, Q_HA_HO186, Q_HI177_e6, Q_HI177_e11, Q_BK174_e14, Q_X7_⟩
      clear BK174 HB HI177
      have hb1_ := hall 1 (by kernel_rfl)
      have hb3_ := hall 3 (by kernel_rfl)
      have hb4_ := hall 4 (by kernel_rfl)
      have hb6_ := hall 6 (by kernel_rfl)
      have hb7_ := hall 7 (by kernel_rfl)
      have hb8_ := hall 8 (by kernel_rfl)
      have hb9_ := hall 9 (by kernel_rfl)
      have hb11_ := hall 11 (by kernel_rfl)
      have hb12_ := hall 12 (by kernel_rfl)
      have hb13_ := hall 13 (by kernel_rfl)
      have hb14_ := hall 14 (by kernel_rfl)
      have hb15_ := hall 15 (by kernel_rfl)
      subst ha
      obtain rfl := Q_X7_ hb7_
      simp only [putSel, hb1_, hb3_, hb4_, hb6_, hb7_, hb8_, hb9_, hb11_, hb12_, hb13_, hb14_, hb15_, if_true, Act.put, List.setIfInBounds_toArray, List.set_cons_zero, List.set_cons_succ]
      clear Q_BK174
      clear Q_HI177
      have HB := Aside0.mk Q_HB
      clear Q_HB
      clear Q_HI177_e1
      clear Q_HI177_e3
      have HO186 := Aside0.mk (Q_HO186 hb4_)
      clear Q_HO186
      have HA_HO186 := Aside0.mk (Q_HA_HO186 hb4_)
      clear Q_HA_HO186
      clear Q_HI177_e6
      have HI177 := Aside0.mk (Q_HI177_e11 hb11_)
      clear Q_HI177_e11
      have BK174 := Aside0.mk (Q_BK174_e14 hb14_)
      clear Q_BK174_e14
      clear hall hb1_ hb3_ hb4_ hb6_ hb7_ hb8_ hb9_ hb11_ hb12_ hb13_ hb14_ hb15_
      obtain ⟨co23, eo23⟩ := HA_HO186.out
      clear HA_HO186
      subst eo23
      try go_wp2
      refine bodyPost_ret (results_ct rfl _ _ gb174 30 #[.int .i64 t178, .int .i64 t179, .int .i64 t180] (0, 0) _ rfl (by (with_reducible repeat (first | refine blk_drewN ?_ _ | refine blk_drew ?_ | refine blk_alloc ?_ _)); exact BK174.out) Try.underlying30 rfl (by kernel_rfl)) rfl ?_
      exact ⟨by first | rfl | (simp [errW_none, errW_some] <;> rfl) | (simp [*, errW_none, errW_some] <;> rfl), by repeat (first | (with_reducible first | exact HB.out | apply below_alloc | apply pw_below_drewN | apply below_drew1 | refine below_set ?_ (IsS72.ge HI177.out) | refine below_set ?_ GE174.out) | exact HB.out)⟩
    · rw [if_neg c7] at H
      exact absurd H (by simp)
  · rw [if_neg c6] at H
    exact absurd H (by simp)

end Go.Proofs.Ytkhjpkholpclhaa.PFnClockTook
