-- PRINTED BY print.sh 35421559b90ae4d0a3588c463048766b98c2df88dd9212a6774a882060cdf62d: not written by this session
import Derived.Test.YtkhjpkholpclhaaPFnPaceHeardx0
import Derived.Test.YtkhjpkholpclhaaPFnPaceHeardx1
import Derived.Test.YtkhjpkholpclhaaPFnPaceHeardx2
import Derived.Test.YtkhjpkholpclhaaPFnPaceHeardx3
namespace Go.Proofs.Ytkhjpkholpclhaa.PFnPaceHeard
open Go.RowKit Go.Proofs.YtkhjpkholpclhaaW.PrintWords Go.Proofs.YtkhjpkholpclhaaW.PrintLast Go.Proofs.YtkhjpkholpclhaaW.PrintMore
attribute [local go_sem] max2_int min2_int max_two min_two max_three min_three max_four min_four   -- for this text's walks alone
set_option linter.unusedVariables false
set_option linter.unusedSimpArgs false

attribute [local go_sem high] eqA37
/-! ### laws_FnPaceHeard: function 11 -/
def laws_FnPaceHeard.l0 : Nat → Int → Int → Int → Int → Int → Int → Int → Int → Int → Int → Option (Bool)
  | 0, _, _, _, _, _, _, _, _, _, _ => none
  | k + 1, x6, x166000, x166001, x166002, x170000, x170001, x170002, x176000, x176001, x176002 => if x6 < x166000 then (if x166000 ≥ 2 then ((impl_PaceHeard.f x176000 x176001 x176002).bind fun bt176 => (laws_FnPaceHeard.l0 k (wrap64 (x6 + 1)) x166000 x166001 x166002 x170000 x170001 x170002 bt176.1 bt176.2.1 bt176.2.2)) else ((impl_PaceOk.f x170000 x170001 x170002).bind fun t179 => (if t179 = true then (if x170000 = x166000 then (if x166000 < 2 then ((laws_alive.f k).bind fun t180 => (some t180)) else (if x176000 = (mn (wrap64 (x166000 + 1)) 64) then ((laws_alive.f k).bind fun t181 => (some t181)) else (some false))) else (if x170000 = (wrap64 (x166000 + 1)) then (if x166000 < 2 then ((laws_alive.f k).bind fun t182 => (some t182)) else (if x176000 = (mn (wrap64 (x166000 + 1)) 64) then ((laws_alive.f k).bind fun t183 => (some t183)) else (some false))) else (some false))) else (some false)))) else ((impl_PaceOk.f x170000 x170001 x170002).bind fun t184 => (if t184 = true then (if x170000 = x166000 then (if x166000 < 2 then ((laws_alive.f k).bind fun t185 => (some t185)) else (if x176000 = (mn (wrap64 (x166000 + 1)) 64) then ((laws_alive.f k).bind fun t186 => (some t186)) else (some false))) else (if x170000 = (wrap64 (x166000 + 1)) then (if x166000 < 2 then ((laws_alive.f k).bind fun t187 => (some t187)) else (if x176000 = (mn (wrap64 (x166000 + 1)) 64) then ((laws_alive.f k).bind fun t188 => (some t188)) else (some false))) else (some false))) else (some false)))
def laws_FnPaceHeard.f (k : Nat) (l0 : List Int) : Option (Bool) := if (l0.length : Int) > 1048576 then (some true) else ((spec_DrawPaceHeard.f k l0).bind fun bt162 => ((impl_PaceHeard.f bt162.1 bt162.2.1 bt162.2.2).bind fun bt166 => ((spec_PaceHeard.f bt162.1 bt162.2.1 bt162.2.2).bind fun bt170 => (if (!(bt166.1 == bt170.1) || (!(bt166.2.1 == bt170.2.1) || (!(bt166.2.2 == bt170.2.2)))) = true then (some false) else ((impl_PaceOk.f bt162.1 bt162.2.1 bt162.2.2).bind fun t173 => (if t173 = true then (laws_FnPaceHeard.l0 k 0 bt162.1 bt162.2.1 bt162.2.2 bt166.1 bt166.2.1 bt166.2.2 bt162.1 2 0) else (if (bt166.1 == 0 && (bt166.2.1 == 0 && (bt166.2.2 == 0))) = true then ((laws_alive.f k).bind fun t174 => (some t174)) else (some false))))))))
theorem laws_FnPaceHeard.mono_l : ∀ k, (∀ y0 y1 y2 y3 y4 y5 y6 y7 y8 y9, LeO (laws_FnPaceHeard.l0 k y0 y1 y2 y3 y4 y5 y6 y7 y8 y9) (laws_FnPaceHeard.l0 (k + 1) y0 y1 y2 y3 y4 y5 y6 y7 y8 y9))
  | 0 => fun _ _ _ _ _ _ _ _ _ _ r h => by simp [laws_FnPaceHeard.l0] at h
  | k + 1 => by
    have ih0 := laws_FnPaceHeard.mono_l k
    · intro y0 y1 y2 y3 y4 y5 y6 y7 y8 y9
      unfold laws_FnPaceHeard.l0
      repeat' first
      | (with_reducible exact ih0 _ _ _ _ _ _ _ _ _ _)
      | (with_reducible exact laws_alive.mono _)
      | (with_reducible exact spec_DrawPaceHeard.mono _ _)
      | (with_reducible exact LeO.refl _)
      | (with_reducible exact LeO.none _)
      | (with_reducible refine LeO.ite ?_ ?_)
      | (with_reducible refine LeO.bind ?_ (fun _ => ?_))
      | exact ih0 _ _ _ _ _ _ _ _ _ _
      | exact laws_alive.mono _
      | exact spec_DrawPaceHeard.mono _ _
      | exact LeO.none _
      | refine LeO.ite ?_ ?_
      | refine LeO.bind ?_ (fun _ => ?_)
theorem laws_FnPaceHeard.mono : ∀ a0 k, LeO (laws_FnPaceHeard.f k a0) (laws_FnPaceHeard.f (k + 1) a0) := by
  intro a0 k
  have ih0 := laws_FnPaceHeard.mono_l k
  unfold laws_FnPaceHeard.f
  repeat' first
      | (with_reducible exact ih0 _ _ _ _ _ _ _ _ _ _)
      | (with_reducible exact laws_alive.mono _)
      | (with_reducible exact spec_DrawPaceHeard.mono _ _)
      | (with_reducible exact LeO.refl _)
      | (with_reducible exact LeO.none _)
      | (with_reducible refine LeO.ite ?_ ?_)
      | (with_reducible refine LeO.bind ?_ (fun _ => ?_))
      | exact ih0 _ _ _ _ _ _ _ _ _ _
      | exact laws_alive.mono _
      | exact spec_DrawPaceHeard.mono _ _
      | exact LeO.none _
      | refine LeO.ite ?_ ?_
      | refine LeO.bind ?_ (fun _ => ?_)
set_option maxHeartbeats 8000000 in
set_option maxRecDepth 100000 in
theorem laws_FnPaceHeard.calls (k : Nat) (A0 : Option Addr) (c0 : Nat) (l0 : List Int) (r : Bool) (w : World) (hr0 : Kd.C (Kd.int .u8) w A0 l0.length l0) (hc0 : l0.length ≤ c0) (h : laws_FnPaceHeard.f k l0 = some r) :
    Calls Try.prog 11 #[.slice A0 l0.length c0] w fun e w' => e = .returned (.bool r) ∧ Below w.heap.size w w' := by
  have hu37 := Try.underlying37
  have HR0 := Aside0.mk hr0
  have HC0 := Aside0.mk hc0
  clear hr0 hc0
  have HB := Aside0.mk (Below.refl w.heap.size w)
  have H : (if (l0.length : Int) > 1048576 then (some true) else ((spec_DrawPaceHeard.f k l0).bind fun bt162 => ((impl_PaceHeard.f bt162.1 bt162.2.1 bt162.2.2).bind fun bt166 => ((spec_PaceHeard.f bt162.1 bt162.2.1 bt162.2.2).bind fun bt170 => (if (!(bt166.1 == bt170.1) || (!(bt166.2.1 == bt170.2.1) || (!(bt166.2.2 == bt170.2.2)))) = true then (some false) else ((impl_PaceOk.f bt162.1 bt162.2.1 bt162.2.2).bind fun t173 => (if t173 = true then (laws_FnPaceHeard.l0 k 0 bt162.1 bt162.2.1 bt162.2.2 bt166.1 bt166.2.1 bt166.2.2 bt162.1 2 0) else (if (bt166.1 == 0 && (bt166.2.1 == 0 && (bt166.2.2 == 0))) = true then ((laws_alive.f k).bind fun t174 => (some t174)) else (some false))))))))) = some r := h
  clear h
  by_cases c2 : (l0.length : Int) > 1048576
  · rw [if_pos c2] at H
    have c2b0 : decide (1048576 < (l0.length : Int)) = true := decide_eq_true c2
    have c2b1 : decide (1048576 < l0.length) = true := decide_eq_true (by omega)
    clear c2
    obtain rfl := Option.some.inj H
    go_enter Try.func11, Try.ntmps11
    go_wp2
    go_ret
    exact ⟨by first | rfl | (simp [errW_none, errW_some] <;> rfl) | (simp [*, errW_none, errW_some] <;> rfl), by repeat (first | (with_reducible first | exact HB.out | apply below_alloc | apply pw_below_drewN | apply below_drew1) | exact HB.out)⟩
  · rw [if_neg c2] at H
    have c2b0 : decide (1048576 < (l0.length : Int)) = false := decide_eq_false c2
    have c2b1 : decide (1048576 < l0.length) = false := decide_eq_false (by omega)
    clear c2
    replace H := Option.bind_eq_some_iff.mp H
    obtain ⟨⟨t162, t163, t164⟩, A30, H⟩ := H
    replace H : ((impl_PaceHeard.f t162 t163 t164).bind fun bt166 => ((spec_PaceHeard.f t162 t163 t164).bind fun bt170 => (if (!(bt166.1 == bt170.1) || (!(bt166.2.1 == bt170.2.1) || (!(bt166.2.2 == bt170.2.2)))) = true then (some false) else ((impl_PaceOk.f t162 t163 t164).bind fun t173 => (if t173 = true then (laws_FnPaceHeard.l0 k 0 t162 t163 t164 bt166.1 bt166.2.1 bt166.2.2 t162 2 0) else (if (bt166.1 == 0 && (bt166.2.1 == 0 && (bt166.2.2 == 0))) = true then ((laws_alive.f k).bind fun t174 => (some t174)) else (some false))))))) = some r := H
    have A3 := Aside0.mk A30
    clear A30
    replace H := Option.bind_eq_some_iff.mp H
    obtain ⟨⟨t166, t167, t168⟩, A40, H⟩ := H
    replace H : ((spec_PaceHeard.f t162 t163 t164).bind fun bt170 => (if (!(t166 == bt170.1) || (!(t167 == bt170.2.1) || (!(t168 == bt170.2.2)))) = true then (some false) else ((impl_PaceOk.f t162 t163 t164).bind fun t173 => (if t173 = true then (laws_FnPaceHeard.l0 k 0 t162 t163 t164 t166 t167 t168 t162 2 0) else (if (t166 == 0 && (t167 == 0 && (t168 == 0))) = true then ((laws_alive.f k).bind fun t174 => (some t174)) else (some false)))))) = some r := H
    have A4 := Aside0.mk A40
    clear A40
    replace H := Option.bind_eq_some_iff.mp H
    obtain ⟨⟨t170, t171, t172⟩, A50, H⟩ := H
    replace H : (if (!(t166 == t170) || (!(t167 == t171) || (!(t168 == t172)))) = true then (some false) else ((impl_PaceOk.f t162 t163 t164).bind fun t173 => (if t173 = true then (laws_FnPaceHeard.l0 k 0 t162 t163 t164 t166 t167 t168 t162 2 0) else (if (t166 == 0 && (t167 == 0 && (t168 == 0))) = true then ((laws_alive.f k).bind fun t174 => (some t174)) else (some false))))) = some r := H
    have A5 := Aside0.mk A50
    clear A50
    by_cases c6 : (!(t166 == t170) || (!(t167 == t171) || (!(t168 == t172)))) = true
    · rw [if_pos c6] at H
      have c6b0 : (!(t166 == t170) || (!(t167 == t171) || (!(t168 == t172)))) = true := c6
      clear c6
      obtain rfl := Option.some.inj H
      go_enter Try.func11, Try.ntmps11
      try go_wp2_with (first | ((with_reducible refine gate_callee (f := 39) rfl ?_); refine goesL_ (some 11) rfl rfl Try.func39 (by kernel_rfl) rfl #[.slice A0 l0.length c0] rfl (by (try simp only [List.map_toArray, List.map_cons, List.map_nil]); first | done | rfl | (simp only [List.length_drop, List.length_take]; rfl)) ?_; (with_reducible refine (spec_DrawPaceHeard.calls k _ _ l0 t162 t163 t164 _ ?side1 ?side2 A3.out).mono ?_); (case side1 => repeat (first | exact HR0.out | (with_reducible refine Kd.C_alloc ?_ _) | (with_reducible refine Kd.C_drewN ?_ _) | (with_reducible refine Kd.C_drew ?_))); (case side2 => exact HC0.out); rintro e w7 ⟨rfl, hb⟩; refine ⟨_, rfl, ?_⟩; have n0_ := Aside0.mk (below_step (by repeat (first | (with_reducible first | exact HB.out | apply below_alloc | apply pw_below_drewN | apply below_drew1) | exact HB.out)) hb); clear HB; have HB := n0_; clear n0_; (try clear hb); (try clear hb2); (try clear hk); (try clear hi)) | ((with_reducible refine gate_dst (N := 3) rfl ?_); (try (refine gate_guard (by rfl) ?_; dsimp only)); refine box_event ?hg (N := 3) ?hd (cs := #[.int .i64 0, .int .i64 0, .int .i64 0]) (t := 37) ?hr ?_; (case hd => rfl); (case hg => rfl); (case hr => first | (go_simp; done) | (go_simp; rfl)); intro gb165 hg w8 hbox hb; have n0_ := Aside0.mk (below_step (by repeat (first | (with_reducible first | exact HB.out | apply below_alloc | apply pw_below_drewN | apply below_drew1) | exact HB.out)) hb); have n1_ := Aside0.mk (hbox); have n2_ := Aside0.mk ((by rw [hg]; exact (below_size (by repeat (first | (with_reducible first | exact HB.out | apply below_alloc | apply pw_below_drewN | apply below_drew1) | exact HB.out))) : w.heap.size ≤ gb165)); have n3_ := Aside0.mk ((by rw [hg]; exact (below_size (by repeat (first | (with_reducible first | exact HB.out | apply below_alloc | apply pw_below_drewN | apply below_drew1) | exact HB.out))) : w.heap.size ≤ gb165)); clear HB; have HB := n0_; have BK165 := n1_; have GW165 := n2_; have GE165 := n3_; clear n0_ n1_ n2_ n3_; clear hb hbox hg; have hcz9_0 : w8.cell? ⟨gb165, 0, none⟩ = some (.int .i64 0) := (blk_cell BK165.out 0).trans rfl; have hcz9_1 : w8.cell? ⟨gb165, 1, none⟩ = some (.int .i64 0) := (blk_cell BK165.out 1).trans rfl; have hcz9_2 : w8.cell? ⟨gb165, 2, none⟩ = some (.int .i64 0) := (blk_cell BK165.out 2).trans rfl; have hfz9_0 := blk_frozen BK165.out 0; have hfz9_1 := blk_frozen BK165.out 1; have hfz9_2 := blk_frozen BK165.out 2) | ((with_reducible refine gate_callee (f := 30) rfl ?_); refine goesL_ (some 13) rfl rfl Try.func30 (by kernel_rfl) rfl #[.agg #[.int .i64 t162, .int .i64 t163, .int .i64 t164]] rfl (by (try simp only [List.map_toArray, List.map_cons, List.map_nil]); first | done | rfl | (simp only [List.length_drop, List.length_take]; rfl)) ?_; (with_reducible refine (impl_PaceHeard.calls t162 t163 t164 t166 t167 t168 _ A4.out).mono ?_); rintro e w10 ⟨rfl, hb⟩; refine ⟨_, rfl, ?_⟩; have n0_ := Aside0.mk (blk_below (g := gb165) (o := .cells #[.int .i64 t162, .int .i64 t163, .int .i64 t164] 37 (0, 0)) (by (with_reducible repeat (first | refine blk_drewN ?_ _ | refine blk_drew ?_ | refine blk_alloc ?_ _)); refine blk_put (cs := #[.int .i64 t162, .int .i64 t163, .int .i64 0]) ?_ 2 _ rfl; (with_reducible repeat (first | refine blk_drewN ?_ _ | refine blk_drew ?_ | refine blk_alloc ?_ _)); refine blk_put (cs := #[.int .i64 t162, .int .i64 0, .int .i64 0]) ?_ 1 _ rfl; (with_reducible repeat (first | refine blk_drewN ?_ _ | refine blk_drew ?_ | refine blk_alloc ?_ _)); refine blk_put (cs := #[.int .i64 0, .int .i64 0, .int .i64 0]) ?_ 0 _ rfl; (with_reducible repeat (first | refine blk_drewN ?_ _ | refine blk_drew ?_ | refine blk_alloc ?_ _)); exact BK165.out) hb); have n1_ := Aside0.mk (below_step (by repeat (first | (with_reducible first | exact HB.out | apply below_alloc | apply pw_below_drewN | apply below_drew1 | refine below_set ?_ GE165.out) | exact HB.out)) hb); clear BK165; clear HB; have BK165 := n0_; have HB := n1_; clear n0_ n1_; (try clear hb); (try clear hb2); (try clear hk); (try clear hi)) | ((with_reducible refine gate_dst (N := 4) rfl ?_); (try (refine gate_guard (by rfl) ?_; dsimp only)); refine box_event ?hg (N := 4) ?hd (cs := #[.int .i64 0, .int .i64 0, .int .i64 0]) (t := 37) ?hr ?_; (case hd => rfl); (case hg => rfl); (case hr => first | (go_simp; done) | (go_simp; rfl)); intro gb169 hg w11 hbox hb; have n0_ := Aside0.mk (blk_below (g := gb165) (o := .cells #[.int .i64 t162, .int .i64 t163, .int .i64 t164] 37 (0, 0)) (by (with_reducible repeat (first | refine blk_drewN ?_ _ | refine blk_drew ?_ | refine blk_alloc ?_ _)); exact BK165.out) hb); have n1_ := Aside0.mk (below_step (by repeat (first | (with_reducible first | exact HB.out | apply below_alloc | apply pw_below_drewN | apply below_drew1 | refine below_set ?_ GE165.out) | exact HB.out)) hb); have n2_ := Aside0.mk (hbox); have n3_ := Aside0.mk ((by rw [hg]; exact (below_size (by repeat (first | (with_reducible first | exact HB.out | apply below_alloc | apply pw_below_drewN | apply below_drew1 | refine below_set ?_ GE165.out) | exact HB.out))) : w.heap.size ≤ gb169)); have n4_ := Aside0.mk ((by rw [hg]; exact (below_size (by repeat (first | (with_reducible first | exact HB.out | apply below_alloc | apply pw_below_drewN | apply below_drew1 | refine below_set ?_ GE165.out) | exact HB.out))) : w.heap.size ≤ gb169)); have n5_ := Aside0.mk ((by rw [hg]; exact Nat.ne_of_lt (blk_lt (g := gb165) (o := .cells #[.int .i64 t162, .int .i64 t163, .int .i64 t164] 37 (0, 0)) (by (with_reducible repeat (first | refine blk_drewN ?_ _ | refine blk_drew ?_ | refine blk_alloc ?_ _)); exact BK165.out)) : gb165 ≠ gb169)); have n6_ := Aside0.mk ((by rw [hg]; exact Nat.ne_of_gt (blk_lt (g := gb165) (o := .cells #[.int .i64 t162, .int .i64 t163, .int .i64 t164] 37 (0, 0)) (by (with_reducible repeat (first | refine blk_drewN ?_ _ | refine blk_drew ?_ | refine blk_alloc ?_ _)); exact BK165.out)) : gb169 ≠ gb165)); clear BK165; clear HB; have BK165 := n0_; have HB := n1_; have BK169 := n2_; have GW169 := n3_; have GE169 := n4_; have NB165_169 := n5_; have NB169_165 := n6_; clear n0_ n1_ n2_ n3_ n4_ n5_ n6_; clear hb hbox hg; have hnb12 := NB169_165.out; have hnc12 := NB165_169.out; have hcz13_0 : w11.cell? ⟨gb169, 0, none⟩ = some (.int .i64 0) := (blk_cell BK169.out 0).trans rfl; have hcz13_1 : w11.cell? ⟨gb169, 1, none⟩ = some (.int .i64 0) := (blk_cell BK169.out 1).trans rfl; have hcz13_2 : w11.cell? ⟨gb169, 2, none⟩ = some (.int .i64 0) := (blk_cell BK169.out 2).trans rfl; have hfz13_0 := blk_frozen BK169.out 0; have hfz13_1 := blk_frozen BK169.out 1; have hfz13_2 := blk_frozen BK169.out 2))
      have n0_ : Aside0 ((((w11.setCell ⟨gb169, 0, none⟩ (.int .i64 t166)).setCell ⟨gb169, 1, none⟩ (.int .i64 t167)).setCell ⟨gb169, 2, none⟩ (.int .i64 t168)).heap[gb165]? = some (.cells #[.int .i64 t162, .int .i64 t163, .int .i64 t164] 37 (0, 0))) := ⟨by (with_reducible repeat (first | refine blk_drewN ?_ _ | refine blk_drew ?_ | refine blk_alloc ?_ _)); refine blk_far ?_ NB165_169.out _; (with_reducible repeat (first | refine blk_drewN ?_ _ | refine blk_drew ?_ | refine blk_alloc ?_ _)); refine blk_far ?_ NB165_169.out _; (with_reducible repeat (first | refine blk_drewN ?_ _ | refine blk_drew ?_ | refine blk_alloc ?_ _)); refine blk_far ?_ NB165_169.out _; (with_reducible repeat (first | refine blk_drewN ?_ _ | refine blk_drew ?_ | refine blk_alloc ?_ _)); exact BK165.out⟩
      have n1_ : Aside0 ((((w11.setCell ⟨gb169, 0, none⟩ (.int .i64 t166)).setCell ⟨gb169, 1, none⟩ (.int .i64 t167)).setCell ⟨gb169, 2, none⟩ (.int .i64 t168)).heap[gb169]? = some (.cells #[.int .i64 t166, .int .i64 t167, .int .i64 t168] 37 (0, 0))) := ⟨by (with_reducible repeat (first | refine blk_drewN ?_ _ | refine blk_drew ?_ | refine blk_alloc ?_ _)); refine blk_put (cs := #[.int .i64 t166, .int .i64 t167, .int .i64 0]) ?_ 2 _ rfl; (with_reducible repeat (first | refine blk_drewN ?_ _ | refine blk_drew ?_ | refine blk_alloc ?_ _)); refine blk_put (cs := #[.int .i64 t166, .int .i64 0, .int .i64 0]) ?_ 1 _ rfl; (with_reducible repeat (first | refine blk_drewN ?_ _ | refine blk_drew ?_ | refine blk_alloc ?_ _)); refine blk_put (cs := #[.int .i64 0, .int .i64 0, .int .i64 0]) ?_ 0 _ rfl; (with_reducible repeat (first | refine blk_drewN ?_ _ | refine blk_drew ?_ | refine blk_alloc ?_ _)); exact BK169.out⟩
      have n2_ : Aside0 (Below w.heap.size w (((w11.setCell ⟨gb169, 0, none⟩ (.int .i64 t166)).setCell ⟨gb169, 1, none⟩ (.int .i64 t167)).setCell ⟨gb169, 2, none⟩ (.int .i64 t168))) := ⟨by repeat (first | (with_reducible first | exact HB.out | apply below_alloc | apply pw_below_drewN | apply below_drew1 | refine below_set ?_ GE165.out | refine below_set ?_ GE169.out) | exact HB.out)⟩
      (try clear BK165)
      (try clear BK169)
      (try clear HB)
      generalize (((w11.setCell ⟨gb169, 0, none⟩ (.int .i64 t166)).setCell ⟨gb169, 1, none⟩ (.int .i64 t167)).setCell ⟨gb169, 2, none⟩ (.int .i64 t168)) = w14 at n0_ n1_ n2_ ⊢
      have BK165 := n0_
      have BK169 := n1_
      have HB := n2_
      clear n0_ n1_ n2_
      have n0_ := Aside0.mk (blk_drew BK165.out)
      have n1_ := Aside0.mk (blk_drew BK169.out)
      have n2_ := Aside0.mk (below_drew1 HB.out)
      clear BK165
      clear BK169
      clear HB
      have BK165 := n0_
      have BK169 := n1_
      have HB := n2_
      clear n0_ n1_ n2_
      refine start_ (n := 4) (S := fun w' => w'.cell? ⟨gb169, 0, none⟩ = some (.int .i64 t166) ∧ w'.cell? ⟨gb169, 1, none⟩ = some (.int .i64 t167) ∧ w'.cell? ⟨gb169, 2, none⟩ = some (.int .i64 t168) ∧ w'.cell? ⟨gb165, 0, none⟩ = some (.int .i64 t162) ∧ w'.cell? ⟨gb165, 1, none⟩ = some (.int .i64 t163) ∧ w'.cell? ⟨gb165, 2, none⟩ = some (.int .i64 t164)) (ds := []) #[false, false, false, false] (by kernel_rfl) rfl rfl ⟨(blk_cell BK169.out 0).trans rfl, (blk_cell BK169.out 1).trans rfl, (blk_cell BK169.out 2).trans rfl, (blk_cell BK165.out 0).trans rfl, (blk_cell BK165.out 1).trans rfl, (blk_cell BK165.out 2).trans rfl⟩ (fun hHeld => ?_)
      generalize w14.drew = w15 at BK165 BK169 HB hHeld ⊢
      refine take_ (i := 0) (N := some 14) (v := ?_) (a' := ?_) #[true, false, false, false] rfl rfl (by kernel_rfl) (fun _ _ _ h => h) (Or.inl ⟨by rfl, ?_⟩) hHeld ?_ ?_
      rotate_left
      · rintro w' ⟨s0, s1, s2, s3, s4, s5⟩
        go_simp
        with_reducible rfl
      rotate_left
      · simp only [Act.put, List.setIfInBounds_toArray, List.set_cons_zero, List.set_cons_succ, i64_w, i32_w]
        rfl
      refine take_ (i := 1) (N := some 15) (v := ?_) (a' := ?_) #[true, true, false, false] rfl rfl (by kernel_rfl) (fun _ _ _ h => h) (Or.inl ⟨by rfl, ?_⟩) hHeld ?_ ?_
      rotate_left
      · rintro w' ⟨s0, s1, s2, s3, s4, s5⟩
        go_simp
        with_reducible rfl
      rotate_left
      · simp only [Act.put, List.setIfInBounds_toArray, List.set_cons_zero, List.set_cons_succ, i64_w, i32_w]
        rfl
      refine one_ (i := 2) (N := some 16) #[true, true, true, false] rfl rfl (by kernel_rfl) (by decide) (fun K hK => ?_)
      refine goes_ Try.func29 (by kernel_rfl) rfl #[.agg #[.int .i64 t162, .int .i64 t163, .int .i64 t164]] (by rfl) rfl rfl (by (try simp only [List.map_toArray, List.map_cons, List.map_nil]); first | done | rfl | (simp only [List.length_drop, List.length_take]; rfl)) ?_
      with_reducible refine (spec_PaceHeard.calls t162 t163 t164 t170 t171 t172 _ A5.out).mono ?_
      rintro e w16 ⟨rfl, hb⟩
      refine ⟨_, rfl, ?_⟩
      have n0_ := Aside0.mk (blk_below (g := gb165) (o := .cells #[.int .i64 t162, .int .i64 t163, .int .i64 t164] 37 (0, 0)) (by (with_reducible repeat (first | refine blk_drewN ?_ _ | refine blk_drew ?_ | refine blk_alloc ?_ _)); exact BK165.out) hb)
      have n1_ := Aside0.mk (blk_below (g := gb169) (o := .cells #[.int .i64 t166, .int .i64 t167, .int .i64 t168] 37 (0, 0)) (by (with_reducible repeat (first | refine blk_drewN ?_ _ | refine blk_drew ?_ | refine blk_alloc ?_ _)); exact BK169.out) hb)
      have n2_ := Aside0.mk (below_step (by repeat (first | (with_reducible first | exact HB.out | apply below_alloc | apply pw_below_drewN | apply below_drew1 | refine below_set ?_ GE165.out | refine below_set ?_ GE169.out) | exact HB.out)) hb)
      clear BK165
      clear BK169
      clear HB
      have BK165 := n0_
      have BK169 := n1_
      have HB := n2_
      clear n0_ n1_ n2_
      (try clear hb)
      (try clear hb2)
      (try clear hk)
      (try clear hi)
      refine hK.out _ _ ⟨(blk_cell BK169.out 0).trans rfl, (blk_cell BK169.out 1).trans rfl, (blk_cell BK169.out 2).trans rfl, (blk_cell BK165.out 0).trans rfl, (blk_cell BK165.out 1).trans rfl, (blk_cell BK165.out 2).trans rfl⟩ (fun hHeld => ?_)
      clear hK K
      refine norm_ (a' := ?_) ?_ ?_
      rotate_left
      · show Act.put _ (some 16) _ = _
        simp only [Act.put, List.setIfInBounds_toArray, List.set_cons_zero, List.set_cons_succ, i64_w, i32_w]
        rfl
      refine pure_ (i := 3) (N := some 17) (v := ?_) (a' := ?_) #[true, true, true, true] rfl rfl (by kernel_rfl) (fun _ _ _ h => h) (Or.inl ⟨by rfl, ?_⟩) ?_ ?_
      rotate_left
      · intro w'
        go_simp
        with_reducible rfl
      rotate_left
      · simp only [Act.put, List.setIfInBounds_toArray, List.set_cons_zero, List.set_cons_succ, i64_w, i32_w]
        rfl
      refine done_ (by kernel_rfl) ?_
      try go_wp2
      go_ret
      exact ⟨by first | rfl | (simp [errW_none, errW_some] <;> rfl) | (simp [*, errW_none, errW_some] <;> rfl), by repeat (first | (with_reducible first | exact HB.out | apply below_alloc | apply pw_below_drewN | apply below_drew1 | refine below_set ?_ GE165.out | refine below_set ?_ GE169.out) | exact HB.out)⟩
    · rw [if_neg c6] at H
      have c6b0 : (!(t166 == t170) || (!(t167 == t171) || (!(t168 == t172)))) = false := by simpa using c6
      clear c6
      replace H := Option.bind_eq_some_iff.mp H
      obtain ⟨t173, A170, H⟩ := H
      replace H : (if t173 = true then (laws_FnPaceHeard.l0 k 0 t162 t163 t164 t166 t167 t168 t162 2 0) else (if (t166 == 0 && (t167 == 0 && (t168 == 0))) = true then ((laws_alive.f k).bind fun t174 => (some t174)) else (some false))) = some r := H
      have A17 := Aside0.mk A170
      clear A170
      by_cases c18 : t173 = true
      · subst c18
        have H1 : (laws_FnPaceHeard.l0 k 0 t162 t163 t164 t166 t167 t168 t162 2 0) = some r := by rw [if_pos rfl] at H; exact H
        clear H
        have H := H1
        clear H1
        have H' := Aside0.mk H
        clear H
        go_enter Try.func11, Try.ntmps11
        try go_wp2_with (first | ((with_reducible refine gate_callee (f := 39) rfl ?_); refine goesL_ (some 11) rfl rfl Try.func39 (by kernel_rfl) rfl #[.slice A0 l0.length c0] rfl (by (try simp only [List.map_toArray, List.map_cons, List.map_nil]); first | done | rfl | (simp only [List.length_drop, List.length_take]; rfl)) ?_; (with_reducible refine (spec_DrawPaceHeard.calls k _ _ l0 t162 t163 t164 _ ?side1 ?side2 A3.out).mono ?_); (case side1 => repeat (first | exact HR0.out | (with_reducible refine Kd.C_alloc ?_ _) | (with_reducible refine Kd.C_drewN ?_ _) | (with_reducible refine Kd.C_drew ?_))); (case side2 => exact HC0.out); rintro e w19 ⟨rfl, hb⟩; refine ⟨_, rfl, ?_⟩; have n0_ := Aside0.mk (below_step (by repeat (first | (with_reducible first | exact HB.out | apply below_alloc | apply pw_below_drewN | apply below_drew1) | exact HB.out)) hb); clear HB; have HB := n0_; clear n0_; (try clear hb); (try clear hb2); (try clear hk); (try clear hi)) | ((with_reducible refine gate_dst (N := 3) rfl ?_); (try (refine gate_guard (by rfl) ?_; dsimp only)); refine box_event ?hg (N := 3) ?hd (cs := #[.int .i64 0, .int .i64 0, .int .i64 0]) (t := 37) ?hr ?_; (case hd => rfl); (case hg => rfl); (case hr => first | (go_simp; done) | (go_simp; rfl)); intro gb165 hg w20 hbox hb; have n0_ := Aside0.mk (below_step (by repeat (first | (with_reducible first | exact HB.out | apply below_alloc | apply pw_below_drewN | apply below_drew1) | exact HB.out)) hb); have n1_ := Aside0.mk (hbox); have n2_ := Aside0.mk ((by rw [hg]; exact (below_size (by repeat (first | (with_reducible first | exact HB.out | apply below_alloc | apply pw_below_drewN | apply below_drew1) | exact HB.out))) : w.heap.size ≤ gb165)); have n3_ := Aside0.mk ((by rw [hg]; exact (below_size (by repeat (first | (with_reducible first | exact HB.out | apply below_alloc | apply pw_below_drewN | apply below_drew1) | exact HB.out))) : w.heap.size ≤ gb165)); clear HB; have HB := n0_; have BK165 := n1_; have GW165 := n2_; have GE165 := n3_; clear n0_ n1_ n2_ n3_; clear hb hbox hg; have hcz21_0 : w20.cell? ⟨gb165, 0, none⟩ = some (.int .i64 0) := (blk_cell BK165.out 0).trans rfl; have hcz21_1 : w20.cell? ⟨gb165, 1, none⟩ = some (.int .i64 0) := (blk_cell BK165.out 1).trans rfl; have hcz21_2 : w20.cell? ⟨gb165, 2, none⟩ = some (.int .i64 0) := (blk_cell BK165.out 2).trans rfl; have hfz21_0 := blk_frozen BK165.out 0; have hfz21_1 := blk_frozen BK165.out 1; have hfz21_2 := blk_frozen BK165.out 2) | ((with_reducible refine gate_callee (f := 30) rfl ?_); refine goesL_ (some 13) rfl rfl Try.func30 (by kernel_rfl) rfl #[.agg #[.int .i64 t162, .int .i64 t163, .int .i64 t164]] rfl (by (try simp only [List.map_toArray, List.map_cons, List.map_nil]); first | done | rfl | (simp only [List.length_drop, List.length_take]; rfl)) ?_; (with_reducible refine (impl_PaceHeard.calls t162 t163 t164 t166 t167 t168 _ A4.out).mono ?_); rintro e w22 ⟨rfl, hb⟩; refine ⟨_, rfl, ?_⟩; have n0_ := Aside0.mk (blk_below (g := gb165) (o := .cells #[.int .i64 t162, .int .i64 t163, .int .i64 t164] 37 (0, 0)) (by (with_reducible repeat (first | refine blk_drewN ?_ _ | refine blk_drew ?_ | refine blk_alloc ?_ _)); refine blk_put (cs := #[.int .i64 t162, .int .i64 t163, .int .i64 0]) ?_ 2 _ rfl; (with_reducible repeat (first | refine blk_drewN ?_ _ | refine blk_drew ?_ | refine blk_alloc ?_ _)); refine blk_put (cs := #[.int .i64 t162, .int .i64 0, .int .i64 0]) ?_ 1 _ rfl; (with_reducible repeat (first | refine blk_drewN ?_ _ | refine blk_drew ?_ | refine blk_alloc ?_ _)); refine blk_put (cs := #[.int .i64 0, .int .i64 0, .int .i64 0]) ?_ 0 _ rfl; (with_reducible repeat (first | refine blk_drewN ?_ _ | refine blk_drew ?_ | refine blk_alloc ?_ _)); exact BK165.out) hb); have n1_ := Aside0.mk (below_step (by repeat (first | (with_reducible first | exact HB.out | apply below_alloc | apply pw_below_drewN | apply below_drew1 | refine below_set ?_ GE165.out) | exact HB.out)) hb); clear BK165; clear HB; have BK165 := n0_; have HB := n1_; clear n0_ n1_; (try clear hb); (try clear hb2); (try clear hk); (try clear hi)) | ((with_reducible refine gate_dst (N := 4) rfl ?_); (try (refine gate_guard (by rfl) ?_; dsimp only)); refine box_event ?hg (N := 4) ?hd (cs := #[.int .i64 0, .int .i64 0, .int .i64 0]) (t := 37) ?hr ?_; (case hd => rfl); (case hg => rfl); (case hr => first | (go_simp; done) | (go_simp; rfl)); intro gb169 hg w23 hbox hb; have n0_ := Aside0.mk (blk_below (g := gb165) (o := .cells #[.int .i64 t162, .int .i64 t163, .int .i64 t164] 37 (0, 0)) (by (with_reducible repeat (first | refine blk_drewN ?_ _ | refine blk_drew ?_ | refine blk_alloc ?_ _)); exact BK165.out) hb); have n1_ := Aside0.mk (below_step (by repeat (first | (with_reducible first | exact HB.out | apply below_alloc | apply pw_below_drewN | apply below_drew1 | refine below_set ?_ GE165.out) | exact HB.out)) hb); have n2_ := Aside0.mk (hbox); have n3_ := Aside0.mk ((by rw [hg]; exact (below_size (by repeat (first | (with_reducible first | exact HB.out | apply below_alloc | apply pw_below_drewN | apply below_drew1 | refine below_set ?_ GE165.out) | exact HB.out))) : w.heap.size ≤ gb169)); have n4_ := Aside0.mk ((by rw [hg]; exact (below_size (by repeat (first | (with_reducible first | exact HB.out | apply below_alloc | apply pw_below_drewN | apply below_drew1 | refine below_set ?_ GE165.out) | exact HB.out))) : w.heap.size ≤ gb169)); have n5_ := Aside0.mk ((by rw [hg]; exact Nat.ne_of_lt (blk_lt (g := gb165) (o := .cells #[.int .i64 t162, .int .i64 t163, .int .i64 t164] 37 (0, 0)) (by (with_reducible repeat (first | refine blk_drewN ?_ _ | refine blk_drew ?_ | refine blk_alloc ?_ _)); exact BK165.out)) : gb165 ≠ gb169)); have n6_ := Aside0.mk ((by rw [hg]; exact Nat.ne_of_gt (blk_lt (g := gb165) (o := .cells #[.int .i64 t162, .int .i64 t163, .int .i64 t164] 37 (0, 0)) (by (with_reducible repeat (first | refine blk_drewN ?_ _ | refine blk_drew ?_ | refine blk_alloc ?_ _)); exact BK165.out)) : gb169 ≠ gb165)); clear BK165; clear HB; have BK165 := n0_; have HB := n1_; have BK169 := n2_; have GW169 := n3_; have GE169 := n4_; have NB165_169 := n5_; have NB169_165 := n6_; clear n0_ n1_ n2_ n3_ n4_ n5_ n6_; clear hb hbox hg; have hnb24 := NB169_165.out; have hnc24 := NB165_169.out; have hcz25_0 : w23.cell? ⟨gb169, 0, none⟩ = some (.int .i64 0) := (blk_cell BK169.out 0).trans rfl; have hcz25_1 : w23.cell? ⟨gb169, 1, none⟩ = some (.int .i64 0) := (blk_cell BK169.out 1).trans rfl; have hcz25_2 : w23.cell? ⟨gb169, 2, none⟩ = some (.int .i64 0) := (blk_cell BK169.out 2).trans rfl; have hfz25_0 := blk_frozen BK169.out 0; have hfz25_1 := blk_frozen BK169.out 1; have hfz25_2 := blk_frozen BK169.out 2))
        have n0_ : Aside0 ((((w23.setCell ⟨gb169, 0, none⟩ (.int .i64 t166)).setCell ⟨gb169, 1, none⟩ (.int .i64 t167)).setCell ⟨gb169, 2, none⟩ (.int .i64 t168)).heap[gb165]? = some (.cells #[.int .i64 t162, .int .i64 t163, .int .i64 t164] 37 (0, 0))) := ⟨by (with_reducible repeat (first | refine blk_drewN ?_ _ | refine blk_drew ?_ | refine blk_alloc ?_ _)); refine blk_far ?_ NB165_169.out _; (with_reducible repeat (first | refine blk_drewN ?_ _ | refine blk_drew ?_ | refine blk_alloc ?_ _)); refine blk_far ?_ NB165_169.out _; (with_reducible repeat (first | refine blk_drewN ?_ _ | refine blk_drew ?_ | refine blk_alloc ?_ _)); refine blk_far ?_ NB165_169.out _; (with_reducible repeat (first | refine blk_drewN ?_ _ | refine blk_drew ?_ | refine blk_alloc ?_ _)); exact BK165.out⟩
        have n1_ : Aside0 ((((w23.setCell ⟨gb169, 0, none⟩ (.int .i64 t166)).setCell ⟨gb169, 1, none⟩ (.int .i64 t167)).setCell ⟨gb169, 2, none⟩ (.int .i64 t168)).heap[gb169]? = some (.cells #[.int .i64 t166, .int .i64 t167, .int .i64 t168] 37 (0, 0))) := ⟨by (with_reducible repeat (first | refine blk_drewN ?_ _ | refine blk_drew ?_ | refine blk_alloc ?_ _)); refine blk_put (cs := #[.int .i64 t166, .int .i64 t167, .int .i64 0]) ?_ 2 _ rfl; (with_reducible repeat (first | refine blk_drewN ?_ _ | refine blk_drew ?_ | refine blk_alloc ?_ _)); refine blk_put (cs := #[.int .i64 t166, .int .i64 0, .int .i64 0]) ?_ 1 _ rfl; (with_reducible repeat (first | refine blk_drewN ?_ _ | refine blk_drew ?_ | refine blk_alloc ?_ _)); refine blk_put (cs := #[.int .i64 0, .int .i64 0, .int .i64 0]) ?_ 0 _ rfl; (with_reducible repeat (first | refine blk_drewN ?_ _ | refine blk_drew ?_ | refine blk_alloc ?_ _)); exact BK169.out⟩
        have n2_ : Aside0 (Below w.heap.size w (((w23.setCell ⟨gb169, 0, none⟩ (.int .i64 t166)).setCell ⟨gb169, 1, none⟩ (.int .i64 t167)).setCell ⟨gb169, 2, none⟩ (.int .i64 t168))) := ⟨by repeat (first | (with_reducible first | exact HB.out | apply below_alloc | apply pw_below_drewN | apply below_drew1 | refine below_set ?_ GE165.out | refine below_set ?_ GE169.out) | exact HB.out)⟩
        (try clear BK165)
        (try clear BK169)
        (try clear HB)
        generalize (((w23.setCell ⟨gb169, 0, none⟩ (.int .i64 t166)).setCell ⟨gb169, 1, none⟩ (.int .i64 t167)).setCell ⟨gb169, 2, none⟩ (.int .i64 t168)) = w26 at n0_ n1_ n2_ ⊢
        have BK165 := n0_
        have BK169 := n1_
        have HB := n2_
        clear n0_ n1_ n2_
        have n0_ := Aside0.mk (blk_drew BK165.out)
        have n1_ := Aside0.mk (blk_drew BK169.out)
        have n2_ := Aside0.mk (below_drew1 HB.out)
        clear BK165
        clear BK169
        clear HB
        have BK165 := n0_
        have BK169 := n1_
        have HB := n2_
        clear n0_ n1_ n2_
        refine start_ (n := 4) (S := fun w' => w'.cell? ⟨gb169, 0, none⟩ = some (.int .i64 t166) ∧ w'.cell? ⟨gb169, 1, none⟩ = some (.int .i64 t167) ∧ w'.cell? ⟨gb169, 2, none⟩ = some (.int .i64 t168) ∧ w'.cell? ⟨gb165, 0, none⟩ = some (.int .i64 t162) ∧ w'.cell? ⟨gb165, 1, none⟩ = some (.int .i64 t163) ∧ w'.cell? ⟨gb165, 2, none⟩ = some (.int .i64 t164)) (ds := []) #[false, false, false, false] (by kernel_rfl) rfl rfl ⟨(blk_cell BK169.out 0).trans rfl, (blk_cell BK169.out 1).trans rfl, (blk_cell BK169.out 2).trans rfl, (blk_cell BK165.out 0).trans rfl, (blk_cell BK165.out 1).trans rfl, (blk_cell BK165.out 2).trans rfl⟩ (fun hHeld => ?_)
        generalize w26.drew = w27 at BK165 BK169 HB hHeld ⊢
        refine take_ (i := 0) (N := some 14) (v := ?_) (a' := ?_) #[true, false, false, false] rfl rfl (by kernel_rfl) (fun _ _ _ h => h) (Or.inl ⟨by rfl, ?_⟩) hHeld ?_ ?_
        rotate_left
        · rintro w' ⟨s0, s1, s2, s3, s4, s5⟩
          go_simp
          with_reducible rfl
        rotate_left
        · simp only [Act.put, List.setIfInBounds_toArray, List.set_cons_zero, List.set_cons_succ, i64_w, i32_w]
          rfl
        refine take_ (i := 1) (N := some 15) (v := ?_) (a' := ?_) #[true, true, false, false] rfl rfl (by kernel_rfl) (fun _ _ _ h => h) (Or.inl ⟨by rfl, ?_⟩) hHeld ?_ ?_
        rotate_left
        · rintro w' ⟨s0, s1, s2, s3, s4, s5⟩
          go_simp
          with_reducible rfl
        rotate_left
        · simp only [Act.put, List.setIfInBounds_toArray, List.set_cons_zero, List.set_cons_succ, i64_w, i32_w]
          rfl
        refine one_ (i := 2) (N := some 16) #[true, true, true, false] rfl rfl (by kernel_rfl) (by decide) (fun K hK => ?_)
        refine goes_ Try.func29 (by kernel_rfl) rfl #[.agg #[.int .i64 t162, .int .i64 t163, .int .i64 t164]] (by rfl) rfl rfl (by (try simp only [List.map_toArray, List.map_cons, List.map_nil]); first | done | rfl | (simp only [List.length_drop, List.length_take]; rfl)) ?_
        with_reducible refine (spec_PaceHeard.calls t162 t163 t164 t170 t171 t172 _ A5.out).mono ?_
        rintro e w28 ⟨rfl, hb⟩
        refine ⟨_, rfl, ?_⟩
        have n0_ := Aside0.mk (blk_below (g := gb165) (o := .cells #[.int .i64 t162, .int .i64 t163, .int .i64 t164] 37 (0, 0)) (by (with_reducible repeat (first | refine blk_drewN ?_ _ | refine blk_drew ?_ | refine blk_alloc ?_ _)); exact BK165.out) hb)
        have n1_ := Aside0.mk (blk_below (g := gb169) (o := .cells #[.int .i64 t166, .int .i64 t167, .int .i64 t168] 37 (0, 0)) (by (with_reducible repeat (first | refine blk_drewN ?_ _ | refine blk_drew ?_ | refine blk_alloc ?_ _)); exact BK169.out) hb)
        have n2_ := Aside0.mk (below_step (by repeat (first | (with_reducible first | exact HB.out | apply below_alloc | apply pw_below_drewN | apply below_drew1 | refine below_set ?_ GE165.out | refine below_set ?_ GE169.out) | exact HB.out)) hb)
        clear BK165
        clear BK169
        clear HB
        have BK165 := n0_
        have BK169 := n1_
        have HB := n2_
        clear n0_ n1_ n2_
        (try clear hb)
        (try clear hb2)
        (try clear hk)
        (try clear hi)
        refine hK.out _ _ ⟨(blk_cell BK169.out 0).trans rfl, (blk_cell BK169.out 1).trans rfl, (blk_cell BK169.out 2).trans rfl, (blk_cell BK165.out 0).trans rfl, (blk_cell BK165.out 1).trans rfl, (blk_cell BK165.out 2).trans rfl⟩ (fun hHeld => ?_)
        clear hK K
        refine norm_ (a' := ?_) ?_ ?_
        rotate_left
        · show Act.put _ (some 16) _ = _
          simp only [Act.put, List.setIfInBounds_toArray, List.set_cons_zero, List.set_cons_succ, i64_w, i32_w]
          rfl
        refine pure_ (i := 3) (N := some 17) (v := ?_) (a' := ?_) #[true, true, true, true] rfl rfl (by kernel_rfl) (fun _ _ _ h => h) (Or.inl ⟨by rfl, ?_⟩) ?_ ?_
        rotate_left
        · intro w'
          go_simp
          with_reducible rfl
        rotate_left
        · simp only [Act.put, List.setIfInBounds_toArray, List.set_cons_zero, List.set_cons_succ, i64_w, i32_w]
          rfl
        refine done_ (by kernel_rfl) ?_
        have hcz29_0 : w28.cell? ⟨gb165, 0, none⟩ = some (.int .i64 t162) := (blk_cell BK165.out 0).trans rfl
        have hcz29_1 : w28.cell? ⟨gb165, 1, none⟩ = some (.int .i64 t163) := (blk_cell BK165.out 1).trans rfl
        have hcz29_2 : w28.cell? ⟨gb165, 2, none⟩ = some (.int .i64 t164) := (blk_cell BK165.out 2).trans rfl
        have hfz29_0 := blk_frozen BK165.out 0
        have hfz29_1 := blk_frozen BK165.out 1
        have hfz29_2 := blk_frozen BK165.out 2
        try go_wp2_with (first | ((with_reducible refine gate_callee (f := 34) rfl ?_); refine goesL_ (some 19) rfl rfl Try.func34 (by kernel_rfl) rfl #[.agg #[.int .i64 t162, .int .i64 t163, .int .i64 t164]] rfl (by (try simp only [List.map_toArray, List.map_cons, List.map_nil]); first | done | rfl | (simp only [List.length_drop, List.length_take]; rfl)) ?_; (with_reducible refine (impl_PaceOk.calls t162 t163 t164 true _ A17.out).mono ?_); rintro e w30 ⟨rfl, hb⟩; refine ⟨_, rfl, ?_⟩; have n0_ := Aside0.mk (blk_below (g := gb165) (o := .cells #[.int .i64 t162, .int .i64 t163, .int .i64 t164] 37 (0, 0)) (by (with_reducible repeat (first | refine blk_drewN ?_ _ | refine blk_drew ?_ | refine blk_alloc ?_ _)); exact BK165.out) hb); have n1_ := Aside0.mk (blk_below (g := gb169) (o := .cells #[.int .i64 t166, .int .i64 t167, .int .i64 t168] 37 (0, 0)) (by (with_reducible repeat (first | refine blk_drewN ?_ _ | refine blk_drew ?_ | refine blk_alloc ?_ _)); exact BK169.out) hb); have n2_ := Aside0.mk (below_step (by repeat (first | (with_reducible first | exact HB.out | apply below_alloc | apply pw_below_drewN | apply below_drew1 | refine below_set ?_ GE165.out | refine below_set ?_ GE169.out) | exact HB.out)) hb); clear BK165; clear BK169; clear HB; have BK165 := n0_; have BK169 := n1_; have HB := n2_; clear n0_ n1_ n2_; (try clear hb); (try clear hb2); (try clear hk); (try clear hi); have hcz31_0 : w30.cell? ⟨gb165, 0, none⟩ = some (.int .i64 t162) := (blk_cell BK165.out 0).trans rfl; have hcz31_1 : w30.cell? ⟨gb165, 1, none⟩ = some (.int .i64 t163) := (blk_cell BK165.out 1).trans rfl; have hcz31_2 : w30.cell? ⟨gb165, 2, none⟩ = some (.int .i64 t164) := (blk_cell BK165.out 2).trans rfl; have hfz31_0 := blk_frozen BK165.out 0; have hfz31_1 := blk_frozen BK165.out 1; have hfz31_2 := blk_frozen BK165.out 2) | ((with_reducible refine gate_dst (N := 5) rfl ?_); (try (refine gate_guard (by rfl) ?_; dsimp only)); refine box_event ?hg (N := 5) ?hd (cs := #[.int .i64 0, .int .i64 0, .int .i64 0]) (t := 37) ?hr ?_; (case hd => rfl); (case hg => rfl); (case hr => first | (go_simp; done) | (go_simp; rfl)); intro gb175 hg w32 hbox hb; have n0_ := Aside0.mk (blk_below (g := gb165) (o := .cells #[.int .i64 t162, .int .i64 t163, .int .i64 t164] 37 (0, 0)) (by (with_reducible repeat (first | refine blk_drewN ?_ _ | refine blk_drew ?_ | refine blk_alloc ?_ _)); exact BK165.out) hb); have n1_ := Aside0.mk (blk_below (g := gb169) (o := .cells #[.int .i64 t166, .int .i64 t167, .int .i64 t168] 37 (0, 0)) (by (with_reducible repeat (first | refine blk_drewN ?_ _ | refine blk_drew ?_ | refine blk_alloc ?_ _)); exact BK169.out) hb); have n2_ := Aside0.mk (below_step (by repeat (first | (with_reducible first | exact HB.out | apply below_alloc | apply pw_below_drewN | apply below_drew1 | refine below_set ?_ GE165.out | refine below_set ?_ GE169.out) | exact HB.out)) hb); have n3_ := Aside0.mk (hbox); have n4_ := Aside0.mk ((by rw [hg]; exact (below_size (by repeat (first | (with_reducible first | exact HB.out | apply below_alloc | apply pw_below_drewN | apply below_drew1 | refine below_set ?_ GE165.out | refine below_set ?_ GE169.out) | exact HB.out))) : w.heap.size ≤ gb175)); have n5_ := Aside0.mk ((by rw [hg]; exact (below_size (by repeat (first | (with_reducible first | exact HB.out | apply below_alloc | apply pw_below_drewN | apply below_drew1 | refine below_set ?_ GE165.out | refine below_set ?_ GE169.out) | exact HB.out))) : w.heap.size ≤ gb175)); have n6_ := Aside0.mk ((by rw [hg]; exact Nat.ne_of_lt (blk_lt (g := gb165) (o := .cells #[.int .i64 t162, .int .i64 t163, .int .i64 t164] 37 (0, 0)) (by (with_reducible repeat (first | refine blk_drewN ?_ _ | refine blk_drew ?_ | refine blk_alloc ?_ _)); exact BK165.out)) : gb165 ≠ gb175)); have n7_ := Aside0.mk ((by rw [hg]; exact Nat.ne_of_gt (blk_lt (g := gb165) (o := .cells #[.int .i64 t162, .int .i64 t163, .int .i64 t164] 37 (0, 0)) (by (with_reducible repeat (first | refine blk_drewN ?_ _ | refine blk_drew ?_ | refine blk_alloc ?_ _)); exact BK165.out)) : gb175 ≠ gb165)); have n8_ := Aside0.mk ((by rw [hg]; exact Nat.ne_of_lt (blk_lt (g := gb169) (o := .cells #[.int .i64 t166, .int .i64 t167, .int .i64 t168] 37 (0, 0)) (by (with_reducible repeat (first | refine blk_drewN ?_ _ | refine blk_drew ?_ | refine blk_alloc ?_ _)); exact BK169.out)) : gb169 ≠ gb175)); have n9_ := Aside0.mk ((by rw [hg]; exact Nat.ne_of_gt (blk_lt (g := gb169) (o := .cells #[.int .i64 t166, .int .i64 t167, .int .i64 t168] 37 (0, 0)) (by (with_reducible repeat (first | refine blk_drewN ?_ _ | refine blk_drew ?_ | refine blk_alloc ?_ _)); exact BK169.out)) : gb175 ≠ gb169)); clear BK165; clear BK169; clear HB; have BK165 := n0_; have BK169 := n1_; have HB := n2_; have BK175 := n3_; have GW175 := n4_; have GE175 := n5_; have NB165_175 := n6_; have NB175_165 := n7_; have NB169_175 := n8_; have NB175_169 := n9_; clear n0_ n1_ n2_ n3_ n4_ n5_ n6_ n7_ n8_ n9_; clear hb hbox hg; have hnb33 := NB175_165.out; have hnc33 := NB165_175.out; have hnb34 := NB175_169.out; have hnc34 := NB169_175.out; have hcz35_0 : w32.cell? ⟨gb175, 0, none⟩ = some (.int .i64 0) := (blk_cell BK175.out 0).trans rfl; have hcz35_1 : w32.cell? ⟨gb175, 1, none⟩ = some (.int .i64 0) := (blk_cell BK175.out 1).trans rfl; have hcz35_2 : w32.cell? ⟨gb175, 2, none⟩ = some (.int .i64 0) := (blk_cell BK175.out 2).trans rfl; have hfz35_0 := blk_frozen BK175.out 0; have hfz35_1 := blk_frozen BK175.out 1; have hfz35_2 := blk_frozen BK175.out 2))
        go_loopg [6] k (fun kq v6 w' => ∃ (x6_1 : Int) (x176000_1 : Int) (x176001_1 : Int) (x176002_1 : Int), v6 = .int .i64 x6_1 ∧ Aside0 (laws_FnPaceHeard.l0 kq x6_1 t162 t163 t164 t166 t167 t168 x176000_1 x176001_1 x176002_1 = some r) ∧ Aside0 (kq ≤ k) ∧ Aside0 (w'.heap[gb165]? = some (.cells #[.int .i64 t162, .int .i64 t163, .int .i64 t164] 37 (0, 0))) ∧ Aside0 (w'.heap[gb169]? = some (.cells #[.int .i64 t166, .int .i64 t167, .int .i64 t168] 37 (0, 0))) ∧ Aside0 (w'.heap[gb175]? = some (.cells #[.int .i64 x176000_1, .int .i64 x176001_1, .int .i64 x176002_1] 37 (0, 0))) ∧ Aside0 (Below w.heap.size w w'))
        case atStart => exact ⟨(0), (t162), (2), (0), (by first | rfl | (simp; done) | (simp [*]; done)), H', ⟨Nat.le_refl _⟩, ⟨by (with_reducible repeat (first | refine blk_drewN ?_ _ | refine blk_drew ?_ | refine blk_alloc ?_ _)); refine blk_far ?_ NB165_175.out _; (with_reducible repeat (first | refine blk_drewN ?_ _ | refine blk_drew ?_ | refine blk_alloc ?_ _)); refine blk_far ?_ NB165_175.out _; (with_reducible repeat (first | refine blk_drewN ?_ _ | refine blk_drew ?_ | refine blk_alloc ?_ _)); refine blk_far ?_ NB165_175.out _; (with_reducible repeat (first | refine blk_drewN ?_ _ | refine blk_drew ?_ | refine blk_alloc ?_ _)); exact BK165.out⟩, ⟨by (with_reducible repeat (first | refine blk_drewN ?_ _ | refine blk_drew ?_ | refine blk_alloc ?_ _)); refine blk_far ?_ NB169_175.out _; (with_reducible repeat (first | refine blk_drewN ?_ _ | refine blk_drew ?_ | refine blk_alloc ?_ _)); refine blk_far ?_ NB169_175.out _; (with_reducible repeat (first | refine blk_drewN ?_ _ | refine blk_drew ?_ | refine blk_alloc ?_ _)); refine blk_far ?_ NB169_175.out _; (with_reducible repeat (first | refine blk_drewN ?_ _ | refine blk_drew ?_ | refine blk_alloc ?_ _)); exact BK169.out⟩, ⟨by (with_reducible repeat (first | refine blk_drewN ?_ _ | refine blk_drew ?_ | refine blk_alloc ?_ _)); refine blk_put (cs := #[.int .i64 t162, .int .i64 2, .int .i64 0]) ?_ 2 _ rfl; (with_reducible repeat (first | refine blk_drewN ?_ _ | refine blk_drew ?_ | refine blk_alloc ?_ _)); refine blk_put (cs := #[.int .i64 t162, .int .i64 0, .int .i64 0]) ?_ 1 _ rfl; (with_reducible repeat (first | refine blk_drewN ?_ _ | refine blk_drew ?_ | refine blk_alloc ?_ _)); refine blk_put (cs := #[.int .i64 0, .int .i64 0, .int .i64 0]) ?_ 0 _ rfl; (with_reducible repeat (first | refine blk_drewN ?_ _ | refine blk_drew ?_ | refine blk_alloc ?_ _)); exact BK175.out⟩, ⟨by repeat (first | (with_reducible first | exact HB.out | apply below_alloc | apply pw_below_drewN | apply below_drew1 | refine below_set ?_ GE165.out | refine below_set ?_ GE169.out | refine below_set ?_ GE175.out) | exact HB.out)⟩⟩
        case round =>
          clear H'
          try clear c1
          try clear c2
          try clear c2b0
          try clear c2b1
          try clear p2
          try clear c3
          try clear c6
          try clear c6b0
          try clear c11
          try clear c12
          try clear c18
          try clear c24
          try clear c29
          try clear c30
          try clear c33
          try clear c34
          try clear hcz13_0
          try clear hcz13_1
          try clear hcz13_2
          try clear hcz21_0
          try clear hcz21_1
          try clear hcz21_2
          try clear hcz25_0
          try clear hcz25_1
          try clear hcz25_2
          try clear hcz29_0
          try clear hcz29_1
          try clear hcz29_2
          try clear hcz31_0
          try clear hcz31_1
          try clear hcz31_2
          try clear hcz35_0
          try clear hcz35_1
          try clear hcz35_2
          try clear hcz9_0
          try clear hcz9_1
          try clear hcz9_2
          try clear hfz13_0
          try clear hfz13_1
          try clear hfz13_2
          try clear hfz21_0
          try clear hfz21_1
          try clear hfz21_2
          try clear hfz25_0
          try clear hfz25_1
          try clear hfz25_2
          try clear hfz29_0
          try clear hfz29_1
          try clear hfz29_2
          try clear hfz31_0
          try clear hfz31_1
          try clear hfz31_2
          try clear hfz35_0
          try clear hfz35_1
          try clear hfz35_2
          try clear hfz9_0
          try clear hfz9_1
          try clear hfz9_2
          obtain ⟨x6_1, x176000_1, x176001_1, x176002_1, rfl, HA, HK1, BK165, BK169, BK175, HB⟩ := hrel
          cases gk with
          | zero => exact absurd HA.out (by simp [laws_FnPaceHeard.l0])
          | succ k1 =>
            have H := HA.out
            clear HA
            simp only [laws_FnPaceHeard.l0] at H
            by_cases c36 : x6_1 < t162
            · rw [if_pos c36] at H
              have c36b0 : decide (x6_1 < t162) = true := decide_eq_true c36
              clear c36
              by_cases c37 : t162 ≥ 2
              · rw [if_pos c37] at H
                have c37b0 : decide (2 ≤ t162) = true := decide_eq_true c37
                clear c37
                replace H := Option.bind_eq_some_iff.mp H
                obtain ⟨⟨t176, t177, t178⟩, A380, H⟩ := H
                replace H : (laws_FnPaceHeard.l0 k1 (wrap64 (x6_1 + 1)) t162 t163 t164 t166 t167 t168 t176 t177 t178) = some r := H
                have A38 := Aside0.mk A380
                clear A380
                have H' := Aside0.mk H
                clear H
                have hnb39 := NB165_169.out
                have hnc39 := NB169_165.out
                have hnb40 := NB165_175.out
                have hnc40 := NB175_165.out
                have hcz41_0 : wr.cell? ⟨gb165, 0, none⟩ = some (.int .i64 t162) := (blk_cell BK165.out 0).trans rfl
                have hcz41_1 : wr.cell? ⟨gb165, 1, none⟩ = some (.int .i64 t163) := (blk_cell BK165.out 1).trans rfl
                have hcz41_2 : wr.cell? ⟨gb165, 2, none⟩ = some (.int .i64 t164) := (blk_cell BK165.out 2).trans rfl
                have hfz41_0 := blk_frozen BK165.out 0
                have hfz41_1 := blk_frozen BK165.out 1
                have hfz41_2 := blk_frozen BK165.out 2
                have hnb42 := NB175_169.out
                have hnc42 := NB169_175.out
                have hcz43_0 : wr.cell? ⟨gb175, 0, none⟩ = some (.int .i64 x176000_1) := (blk_cell BK175.out 0).trans rfl
                have hcz43_1 : wr.cell? ⟨gb175, 1, none⟩ = some (.int .i64 x176001_1) := (blk_cell BK175.out 1).trans rfl
                have hcz43_2 : wr.cell? ⟨gb175, 2, none⟩ = some (.int .i64 x176002_1) := (blk_cell BK175.out 2).trans rfl
                have hfz43_0 := blk_frozen BK175.out 0
                have hfz43_1 := blk_frozen BK175.out 1
                have hfz43_2 := blk_frozen BK175.out 2
                go_wp2_with (first | ((with_reducible refine gate_callee (f := 30) rfl ?_); refine goesL_ (some 42) rfl rfl Try.func30 (by kernel_rfl) rfl #[.agg #[.int .i64 x176000_1, .int .i64 x176001_1, .int .i64 x176002_1]] rfl (by (try simp only [List.map_toArray, List.map_cons, List.map_nil]); first | done | rfl | (simp only [List.length_drop, List.length_take]; rfl)) ?_; (with_reducible refine (impl_PaceHeard.calls x176000_1 x176001_1 x176002_1 t176 t177 t178 _ A38.out).mono ?_); rintro e w44 ⟨rfl, hb⟩; refine ⟨_, rfl, ?_⟩; have n0_ := Aside0.mk (blk_below (g := gb165) (o := .cells #[.int .i64 t162, .int .i64 t163, .int .i64 t164] 37 (0, 0)) (by (with_reducible repeat (first | refine blk_drewN ?_ _ | refine blk_drew ?_ | refine blk_alloc ?_ _)); exact BK165.out) hb); have n1_ := Aside0.mk (blk_below (g := gb169) (o := .cells #[.int .i64 t166, .int .i64 t167, .int .i64 t168] 37 (0, 0)) (by (with_reducible repeat (first | refine blk_drewN ?_ _ | refine blk_drew ?_ | refine blk_alloc ?_ _)); exact BK169.out) hb); have n2_ := Aside0.mk (blk_below (g := gb175) (o := .cells #[.int .i64 x176000_1, .int .i64 x176001_1, .int .i64 x176002_1] 37 (0, 0)) (by (with_reducible repeat (first | refine blk_drewN ?_ _ | refine blk_drew ?_ | refine blk_alloc ?_ _)); exact BK175.out) hb); have n3_ := Aside0.mk (below_step (by repeat (first | (with_reducible first | exact HB.out | apply below_alloc | apply pw_below_drewN | apply below_drew1 | refine below_set ?_ GE165.out | refine below_set ?_ GE169.out | refine below_set ?_ GE175.out) | exact HB.out)) hb); clear BK165; clear BK169; clear BK175; clear HB; have BK165 := n0_; have BK169 := n1_; have BK175 := n2_; have HB := n3_; clear n0_ n1_ n2_ n3_; (try clear hb); (try clear hb2); (try clear hk); (try clear hi); have hcz45_0 : w44.cell? ⟨gb175, 0, none⟩ = some (.int .i64 x176000_1) := (blk_cell BK175.out 0).trans rfl; have hcz45_1 : w44.cell? ⟨gb175, 1, none⟩ = some (.int .i64 x176001_1) := (blk_cell BK175.out 1).trans rfl; have hcz45_2 : w44.cell? ⟨gb175, 2, none⟩ = some (.int .i64 x176002_1) := (blk_cell BK175.out 2).trans rfl; have hfz45_0 := blk_frozen BK175.out 0; have hfz45_1 := blk_frozen BK175.out 1; have hfz45_2 := blk_frozen BK175.out 2))
                go_roundg k1
                case measure => have := HK1.out; omega
                case rel => exact ⟨(wrap64 (x6_1 + 1)), (t176), (t177), (t178), (by first | rfl | (simp; done) | (simp [*]; done)), H', ⟨by have := HK1.out; omega⟩, ⟨by (with_reducible repeat (first | refine blk_drewN ?_ _ | refine blk_drew ?_ | refine blk_alloc ?_ _)); refine blk_far ?_ NB165_175.out _; (with_reducible repeat (first | refine blk_drewN ?_ _ | refine blk_drew ?_ | refine blk_alloc ?_ _)); refine blk_far ?_ NB165_175.out _; (with_reducible repeat (first | refine blk_drewN ?_ _ | refine blk_drew ?_ | refine blk_alloc ?_ _)); refine blk_far ?_ NB165_175.out _; (with_reducible repeat (first | refine blk_drewN ?_ _ | refine blk_drew ?_ | refine blk_alloc ?_ _)); exact BK165.out⟩, ⟨by (with_reducible repeat (first | refine blk_drewN ?_ _ | refine blk_drew ?_ | refine blk_alloc ?_ _)); refine blk_far ?_ NB169_175.out _; (with_reducible repeat (first | refine blk_drewN ?_ _ | refine blk_drew ?_ | refine blk_alloc ?_ _)); refine blk_far ?_ NB169_175.out _; (with_reducible repeat (first | refine blk_drewN ?_ _ | refine blk_drew ?_ | refine blk_alloc ?_ _)); refine blk_far ?_ NB169_175.out _; (with_reducible repeat (first | refine blk_drewN ?_ _ | refine blk_drew ?_ | refine blk_alloc ?_ _)); exact BK169.out⟩, ⟨by (with_reducible repeat (first | refine blk_drewN ?_ _ | refine blk_drew ?_ | refine blk_alloc ?_ _)); refine blk_put (cs := #[.int .i64 t176, .int .i64 t177, .int .i64 x176002_1]) ?_ 2 _ rfl; (with_reducible repeat (first | refine blk_drewN ?_ _ | refine blk_drew ?_ | refine blk_alloc ?_ _)); refine blk_put (cs := #[.int .i64 t176, .int .i64 x176001_1, .int .i64 x176002_1]) ?_ 1 _ rfl; (with_reducible repeat (first | refine blk_drewN ?_ _ | refine blk_drew ?_ | refine blk_alloc ?_ _)); refine blk_put (cs := #[.int .i64 x176000_1, .int .i64 x176001_1, .int .i64 x176002_1]) ?_ 0 _ rfl; (with_reducible repeat (first | refine blk_drewN ?_ _ | refine blk_drew ?_ | refine blk_alloc ?_ _)); exact BK175.out⟩, ⟨by repeat (first | (with_reducible first | exact HB.out | apply below_alloc | apply pw_below_drewN | apply below_drew1 | refine below_set ?_ GE165.out | refine below_set ?_ GE169.out | refine below_set ?_ GE175.out) | exact HB.out)⟩⟩
              · rw [if_neg c37] at H
                have c37b0 : decide (2 ≤ t162) = false := decide_eq_false c37
                clear c37
                replace H := Option.bind_eq_some_iff.mp H
                obtain ⟨t179, A460, H⟩ := H
                replace H : (if t179 = true then (if t166 = t162 then (if t162 < 2 then ((laws_alive.f k1).bind fun t180 => (some t180)) else (if x176000_1 = (mn (wrap64 (t162 + 1)) 64) then ((laws_alive.f k1).bind fun t181 => (some t181)) else (some false))) else (if t166 = (wrap64 (t162 + 1)) then (if t162 < 2 then ((laws_alive.f k1).bind fun t182 => (some t182)) else (if x176000_1 = (mn (wrap64 (t162 + 1)) 64) then ((laws_alive.f k1).bind fun t183 => (some t183)) else (some false))) else (some false))) else (some false)) = some r := H
                have A46 := Aside0.mk A460
                clear A460
                by_cases c47 : t179 = true
                · subst c47
                  have H1 : (if t166 = t162 then (if t162 < 2 then ((laws_alive.f k1).bind fun t180 => (some t180)) else (if x176000_1 = (mn (wrap64 (t162 + 1)) 64) then ((laws_alive.f k1).bind fun t181 => (some t181)) else (some false))) else (if t166 = (wrap64 (t162 + 1)) then (if t162 < 2 then ((laws_alive.f k1).bind fun t182 => (some t182)) else (if x176000_1 = (mn (wrap64 (t162 + 1)) 64) then ((laws_alive.f k1).bind fun t183 => (some t183)) else (some false))) else (some false))) = some r := by rw [if_pos rfl] at H; exact H
                  clear H
                  have H := H1
                  clear H1
                  by_cases c48 : t166 = t162
                  · rw [if_pos c48] at H
                    have c48b0 : (t166 == t162) = true := beq_iff_eq.mpr c48
                    have c48b1 : (t166 != t162) = false := bne_eq_false_iff_eq.mpr c48
                    clear c48
                    by_cases c49 : t162 < 2
                    · rw [if_pos c49] at H
                      have c49b0 : decide (t162 < 2) = true := decide_eq_true c49
                      clear c49
                      replace H := Option.bind_eq_some_iff.mp H
                      obtain ⟨t180, A500, H⟩ := H
                      replace H : (some t180) = some r := H
                      have A50 := Aside0.mk A500
                      clear A500
                      obtain rfl := Option.some.inj H
                      have hnb51 := NB165_169.out
                      have hnc51 := NB169_165.out
                      have hnb52 := NB165_175.out
                      have hnc52 := NB175_165.out
                      have hcz53_0 : wr.cell? ⟨gb165, 0, none⟩ = some (.int .i64 t162) := (blk_cell BK165.out 0).trans rfl
                      have hcz53_1 : wr.cell? ⟨gb165, 1, none⟩ = some (.int .i64 t163) := (blk_cell BK165.out 1).trans rfl
                      have hcz53_2 : wr.cell? ⟨gb165, 2, none⟩ = some (.int .i64 t164) := (blk_cell BK165.out 2).trans rfl
                      have hfz53_0 := blk_frozen BK165.out 0
                      have hfz53_1 := blk_frozen BK165.out 1
                      have hfz53_2 := blk_frozen BK165.out 2
                      have hnb54 := NB169_175.out
                      have hnc54 := NB175_169.out
                      have hcz55_0 : wr.cell? ⟨gb169, 0, none⟩ = some (.int .i64 t166) := (blk_cell BK169.out 0).trans rfl
                      have hcz55_1 : wr.cell? ⟨gb169, 1, none⟩ = some (.int .i64 t167) := (blk_cell BK169.out 1).trans rfl
                      have hcz55_2 : wr.cell? ⟨gb169, 2, none⟩ = some (.int .i64 t168) := (blk_cell BK169.out 2).trans rfl
                      have hfz55_0 := blk_frozen BK169.out 0
                      have hfz55_1 := blk_frozen BK169.out 1
                      have hfz55_2 := blk_frozen BK169.out 2
                      go_wp2_with (first | ((with_reducible refine gate_callee (f := 34) rfl ?_); refine goesL_ (some 44) rfl rfl Try.func34 (by kernel_rfl) rfl #[.agg #[.int .i64 t166, .int .i64 t167, .int .i64 t168]] rfl (by (try simp only [List.map_toArray, List.map_cons, List.map_nil]); first | done | rfl | (simp only [List.length_drop, List.length_take]; rfl)) ?_; (with_reducible refine (impl_PaceOk.calls t166 t167 t168 true _ A46.out).mono ?_); rintro e w56 ⟨rfl, hb⟩; refine ⟨_, rfl, ?_⟩; have n0_ := Aside0.mk (blk_below (g := gb165) (o := .cells #[.int .i64 t162, .int .i64 t163, .int .i64 t164] 37 (0, 0)) (by (with_reducible repeat (first | refine blk_drewN ?_ _ | refine blk_drew ?_ | refine blk_alloc ?_ _)); exact BK165.out) hb); have n1_ := Aside0.mk (blk_below (g := gb169) (o := .cells #[.int .i64 t166, .int .i64 t167, .int .i64 t168] 37 (0, 0)) (by (with_reducible repeat (first | refine blk_drewN ?_ _ | refine blk_drew ?_ | refine blk_alloc ?_ _)); exact BK169.out) hb); have n2_ := Aside0.mk (blk_below (g := gb175) (o := .cells #[.int .i64 x176000_1, .int .i64 x176001_1, .int .i64 x176002_1] 37 (0, 0)) (by (with_reducible repeat (first | refine blk_drewN ?_ _ | refine blk_drew ?_ | refine blk_alloc ?_ _)); exact BK175.out) hb); have n3_ := Aside0.mk (below_step (by repeat (first | (with_reducible first | exact HB.out | apply below_alloc | apply pw_below_drewN | apply below_drew1 | refine below_set ?_ GE165.out | refine below_set ?_ GE169.out | refine below_set ?_ GE175.out) | exact HB.out)) hb); clear BK165; clear BK169; clear BK175; clear HB; have BK165 := n0_; have BK169 := n1_; have BK175 := n2_; have HB := n3_; clear n0_ n1_ n2_ n3_; (try clear hb); (try clear hb2); (try clear hk); (try clear hi); have hcz57_0 : w56.cell? ⟨gb169, 0, none⟩ = some (.int .i64 t166) := (blk_cell BK169.out 0).trans rfl; have hcz57_1 : w56.cell? ⟨gb169, 1, none⟩ = some (.int .i64 t167) := (blk_cell BK169.out 1).trans rfl; have hcz57_2 : w56.cell? ⟨gb169, 2, none⟩ = some (.int .i64 t168) := (blk_cell BK169.out 2).trans rfl; have hfz57_0 := blk_frozen BK169.out 0; have hfz57_1 := blk_frozen BK169.out 1; have hfz57_2 := blk_frozen BK169.out 2; have hcz58_0 : w56.cell? ⟨gb165, 0, none⟩ = some (.int .i64 t162) := (blk_cell BK165.out 0).trans rfl; have hcz58_1 : w56.cell? ⟨gb165, 1, none⟩ = some (.int .i64 t163) := (blk_cell BK165.out 1).trans rfl; have hcz58_2 : w56.cell? ⟨gb165, 2, none⟩ = some (.int .i64 t164) := (blk_cell BK165.out 2).trans rfl; have hfz58_0 := blk_frozen BK165.out 0; have hfz58_1 := blk_frozen BK165.out 1; have hfz58_2 := blk_frozen BK165.out 2) | (go_at_call 36; (with_reducible refine (laws_alive.calls k1  t180 _ A50.out).mono ?_); rintro e w59 ⟨rfl, hb⟩; have n0_ := Aside0.mk (blk_below (g := gb165) (o := .cells #[.int .i64 t162, .int .i64 t163, .int .i64 t164] 37 (0, 0)) (by (with_reducible repeat (first | refine blk_drewN ?_ _ | refine blk_drew ?_ | refine blk_alloc ?_ _)); exact BK165.out) hb); have n1_ := Aside0.mk (blk_below (g := gb169) (o := .cells #[.int .i64 t166, .int .i64 t167, .int .i64 t168] 37 (0, 0)) (by (with_reducible repeat (first | refine blk_drewN ?_ _ | refine blk_drew ?_ | refine blk_alloc ?_ _)); exact BK169.out) hb); have n2_ := Aside0.mk (blk_below (g := gb175) (o := .cells #[.int .i64 x176000_1, .int .i64 x176001_1, .int .i64 x176002_1] 37 (0, 0)) (by (with_reducible repeat (first | refine blk_drewN ?_ _ | refine blk_drew ?_ | refine blk_alloc ?_ _)); exact BK175.out) hb); have n3_ := Aside0.mk (below_step (by repeat (first | (with_reducible first | exact HB.out | apply below_alloc | apply pw_below_drewN | apply below_drew1 | refine below_set ?_ GE165.out | refine below_set ?_ GE169.out | refine below_set ?_ GE175.out) | exact HB.out)) hb); clear BK165; clear BK169; clear BK175; clear HB; have BK165 := n0_; have BK169 := n1_; have BK175 := n2_; have HB := n3_; clear n0_ n1_ n2_ n3_; (try clear hb); (try clear hb2); (try clear hk); (try clear hi)))
                      go_ret
                      exact ⟨by first | rfl | (simp [errW_none, errW_some] <;> rfl) | (simp [*, errW_none, errW_some] <;> rfl), by repeat (first | (with_reducible first | exact HB.out | apply below_alloc | apply pw_below_drewN | apply below_drew1 | refine below_set ?_ GE165.out | refine below_set ?_ GE169.out | refine below_set ?_ GE175.out) | exact HB.out)⟩
                    · rw [if_neg c49] at H
                      have c49b0 : decide (t162 < 2) = false := decide_eq_false c49
                      clear c49
                      obtain ⟨ji60, hji60⟩ : ∃ j_ : Int, (mn (wrap64 (t162 + 1)) 64) = j_ := ⟨_, rfl⟩
                      replace H : (if x176000_1 = (ji60) then ((laws_alive.f k1).bind fun t181 => (some t181)) else (some false)) = some r := by first | (rw [hji60] at H; exact H) | (simp only [hji60] at H ⊢; exact H)
                      (try rw [hji60] at A46)
                      have hji60_ : (if 64 < (wrap64 (t162 + 1)) then 64 else (wrap64 (t162 + 1))) = ji60 := hji60
                      by_cases c61 : x176000_1 = (ji60)
                      · rw [if_pos c61] at H
                        have c61b0 : (x176000_1 == (ji60)) = true := beq_iff_eq.mpr c61
                        have c61b1 : (x176000_1 != (ji60)) = false := bne_eq_false_iff_eq.mpr c61
                        clear c61
                        replace H := Option.bind_eq_some_iff.mp H
                        obtain ⟨t181, A620, H⟩ := H
                        replace H : (some t181) = some r := H
                        have A62 := Aside0.mk A620
                        clear A620
                        obtain rfl := Option.some.inj H
                        have hnb63 := NB165_169.out
                        have hnc63 := NB169_165.out
                        have hnb64 := NB165_175.out
                        have hnc64 := NB175_165.out
                        have hcz65_0 : wr.cell? ⟨gb165, 0, none⟩ = some (.int .i64 t162) := (blk_cell BK165.out 0).trans rfl
                        have hcz65_1 : wr.cell? ⟨gb165, 1, none⟩ = some (.int .i64 t163) := (blk_cell BK165.out 1).trans rfl
                        have hcz65_2 : wr.cell? ⟨gb165, 2, none⟩ = some (.int .i64 t164) := (blk_cell BK165.out 2).trans rfl
                        have hfz65_0 := blk_frozen BK165.out 0
                        have hfz65_1 := blk_frozen BK165.out 1
                        have hfz65_2 := blk_frozen BK165.out 2
                        have hnb66 := NB169_175.out
                        have hnc66 := NB175_169.out
                        have hcz67_0 : wr.cell? ⟨gb169, 0, none⟩ = some (.int .i64 t166) := (blk_cell BK169.out 0).trans rfl
                        have hcz67_1 : wr.cell? ⟨gb169, 1, none⟩ = some (.int .i64 t167) := (blk_cell BK169.out 1).trans rfl
                        have hcz67_2 : wr.cell? ⟨gb169, 2, none⟩ = some (.int .i64 t168) := (blk_cell BK169.out 2).trans rfl
                        have hfz67_0 := blk_frozen BK169.out 0
                        have hfz67_1 := blk_frozen BK169.out 1
                        have hfz67_2 := blk_frozen BK169.out 2
                        go_wp2_with (first | ((with_reducible refine gate_callee (f := 34) rfl ?_); refine goesL_ (some 44) rfl rfl Try.func34 (by kernel_rfl) rfl #[.agg #[.int .i64 t166, .int .i64 t167, .int .i64 t168]] rfl (by (try simp only [List.map_toArray, List.map_cons, List.map_nil]); first | done | rfl | (simp only [List.length_drop, List.length_take]; rfl)) ?_; (with_reducible refine (impl_PaceOk.calls t166 t167 t168 true _ A46.out).mono ?_); rintro e w68 ⟨rfl, hb⟩; refine ⟨_, rfl, ?_⟩; have n0_ := Aside0.mk (blk_below (g := gb165) (o := .cells #[.int .i64 t162, .int .i64 t163, .int .i64 t164] 37 (0, 0)) (by (with_reducible repeat (first | refine blk_drewN ?_ _ | refine blk_drew ?_ | refine blk_alloc ?_ _)); exact BK165.out) hb); have n1_ := Aside0.mk (blk_below (g := gb169) (o := .cells #[.int .i64 t166, .int .i64 t167, .int .i64 t168] 37 (0, 0)) (by (with_reducible repeat (first | refine blk_drewN ?_ _ | refine blk_drew ?_ | refine blk_alloc ?_ _)); exact BK169.out) hb); have n2_ := Aside0.mk (blk_below (g := gb175) (o := .cells #[.int .i64 x176000_1, .int .i64 x176001_1, .int .i64 x176002_1] 37 (0, 0)) (by (with_reducible repeat (first | refine blk_drewN ?_ _ | refine blk_drew ?_ | refine blk_alloc ?_ _)); exact BK175.out) hb); have n3_ := Aside0.mk (below_step (by repeat (first | (with_reducible first | exact HB.out | apply below_alloc | apply pw_below_drewN | apply below_drew1 | refine below_set ?_ GE165.out | refine below_set ?_ GE169.out | refine below_set ?_ GE175.out) | exact HB.out)) hb); clear BK165; clear BK169; clear BK175; clear HB; have BK165 := n0_; have BK169 := n1_; have BK175 := n2_; have HB := n3_; clear n0_ n1_ n2_ n3_; (try clear hb); (try clear hb2); (try clear hk); (try clear hi); have hcz69_0 : w68.cell? ⟨gb169, 0, none⟩ = some (.int .i64 t166) := (blk_cell BK169.out 0).trans rfl; have hcz69_1 : w68.cell? ⟨gb169, 1, none⟩ = some (.int .i64 t167) := (blk_cell BK169.out 1).trans rfl; have hcz69_2 : w68.cell? ⟨gb169, 2, none⟩ = some (.int .i64 t168) := (blk_cell BK169.out 2).trans rfl; have hfz69_0 := blk_frozen BK169.out 0; have hfz69_1 := blk_frozen BK169.out 1; have hfz69_2 := blk_frozen BK169.out 2; have hcz70_0 : w68.cell? ⟨gb165, 0, none⟩ = some (.int .i64 t162) := (blk_cell BK165.out 0).trans rfl; have hcz70_1 : w68.cell? ⟨gb165, 1, none⟩ = some (.int .i64 t163) := (blk_cell BK165.out 1).trans rfl; have hcz70_2 : w68.cell? ⟨gb165, 2, none⟩ = some (.int .i64 t164) := (blk_cell BK165.out 2).trans rfl; have hfz70_0 := blk_frozen BK165.out 0; have hfz70_1 := blk_frozen BK165.out 1; have hfz70_2 := blk_frozen BK165.out 2; have hcz71_0 : w68.cell? ⟨gb175, 0, none⟩ = some (.int .i64 x176000_1) := (blk_cell BK175.out 0).trans rfl; have hcz71_1 : w68.cell? ⟨gb175, 1, none⟩ = some (.int .i64 x176001_1) := (blk_cell BK175.out 1).trans rfl; have hcz71_2 : w68.cell? ⟨gb175, 2, none⟩ = some (.int .i64 x176002_1) := (blk_cell BK175.out 2).trans rfl; have hfz71_0 := blk_frozen BK175.out 0; have hfz71_1 := blk_frozen BK175.out 1; have hfz71_2 := blk_frozen BK175.out 2) | (go_at_call 36; (with_reducible refine (laws_alive.calls k1  t181 _ A62.out).mono ?_); rintro e w72 ⟨rfl, hb⟩; have n0_ := Aside0.mk (blk_below (g := gb165) (o := .cells #[.int .i64 t162, .int .i64 t163, .int .i64 t164] 37 (0, 0)) (by (with_reducible repeat (first | refine blk_drewN ?_ _ | refine blk_drew ?_ | refine blk_alloc ?_ _)); exact BK165.out) hb); have n1_ := Aside0.mk (blk_below (g := gb169) (o := .cells #[.int .i64 t166, .int .i64 t167, .int .i64 t168] 37 (0, 0)) (by (with_reducible repeat (first | refine blk_drewN ?_ _ | refine blk_drew ?_ | refine blk_alloc ?_ _)); exact BK169.out) hb); have n2_ := Aside0.mk (blk_below (g := gb175) (o := .cells #[.int .i64 x176000_1, .int .i64 x176001_1, .int .i64 x176002_1] 37 (0, 0)) (by (with_reducible repeat (first | refine blk_drewN ?_ _ | refine blk_drew ?_ | refine blk_alloc ?_ _)); exact BK175.out) hb); have n3_ := Aside0.mk (below_step (by repeat (first | (with_reducible first | exact HB.out | apply below_alloc | apply pw_below_drewN | apply below_drew1 | refine below_set ?_ GE165.out | refine below_set ?_ GE169.out | refine below_set ?_ GE175.out) | exact HB.out)) hb); clear BK165; clear BK169; clear BK175; clear HB; have BK165 := n0_; have BK169 := n1_; have BK175 := n2_; have HB := n3_; clear n0_ n1_ n2_ n3_; (try clear hb); (try clear hb2); (try clear hk); (try clear hi)))
                        go_ret
                        exact ⟨by first | rfl | (simp [errW_none, errW_some] <;> rfl) | (simp only [← hji60]; first | rfl | (simp [errW_none, errW_some] <;> rfl)) | (simp [*, errW_none, errW_some] <;> rfl), by repeat (first | (with_reducible first | exact HB.out | apply below_alloc | apply pw_below_drewN | apply below_drew1 | refine below_set ?_ GE165.out | refine below_set ?_ GE169.out | refine below_set ?_ GE175.out) | exact HB.out)⟩
                      · rw [if_neg c61] at H
                        have c61b0 : (x176000_1 == (ji60)) = false := beq_eq_false_iff_ne.mpr c61
                        have c61b1 : (x176000_1 != (ji60)) = true := bne_iff_ne.mpr c61
                        obtain rfl := Option.some.inj H
                        have hnb73 := NB165_169.out
                        have hnc73 := NB169_165.out
                        have hnb74 := NB165_175.out
                        have hnc74 := NB175_165.out
                        have hcz75_0 : wr.cell? ⟨gb165, 0, none⟩ = some (.int .i64 t162) := (blk_cell BK165.out 0).trans rfl
                        have hcz75_1 : wr.cell? ⟨gb165, 1, none⟩ = some (.int .i64 t163) := (blk_cell BK165.out 1).trans rfl
                        have hcz75_2 : wr.cell? ⟨gb165, 2, none⟩ = some (.int .i64 t164) := (blk_cell BK165.out 2).trans rfl
                        have hfz75_0 := blk_frozen BK165.out 0
                        have hfz75_1 := blk_frozen BK165.out 1
                        have hfz75_2 := blk_frozen BK165.out 2
                        have hnb76 := NB169_175.out
                        have hnc76 := NB175_169.out
                        have hcz77_0 : wr.cell? ⟨gb169, 0, none⟩ = some (.int .i64 t166) := (blk_cell BK169.out 0).trans rfl
                        have hcz77_1 : wr.cell? ⟨gb169, 1, none⟩ = some (.int .i64 t167) := (blk_cell BK169.out 1).trans rfl
                        have hcz77_2 : wr.cell? ⟨gb169, 2, none⟩ = some (.int .i64 t168) := (blk_cell BK169.out 2).trans rfl
                        have hfz77_0 := blk_frozen BK169.out 0
                        have hfz77_1 := blk_frozen BK169.out 1
                        have hfz77_2 := blk_frozen BK169.out 2
                        go_wp2_with (first | ((with_reducible refine gate_callee (f := 34) rfl ?_); refine goesL_ (some 44) rfl rfl Try.func34 (by kernel_rfl) rfl #[.agg #[.int .i64 t166, .int .i64 t167, .int .i64 t168]] rfl (by (try simp only [List.map_toArray, List.map_cons, List.map_nil]); first | done | rfl | (simp only [List.length_drop, List.length_take]; rfl)) ?_; (with_reducible refine (impl_PaceOk.calls t166 t167 t168 true _ A46.out).mono ?_); rintro e w78 ⟨rfl, hb⟩; refine ⟨_, rfl, ?_⟩; have n0_ := Aside0.mk (blk_below (g := gb165) (o := .cells #[.int .i64 t162, .int .i64 t163, .int .i64 t164] 37 (0, 0)) (by (with_reducible repeat (first | refine blk_drewN ?_ _ | refine blk_drew ?_ | refine blk_alloc ?_ _)); exact BK165.out) hb); have n1_ := Aside0.mk (blk_below (g := gb169) (o := .cells #[.int .i64 t166, .int .i64 t167, .int .i64 t168] 37 (0, 0)) (by (with_reducible repeat (first | refine blk_drewN ?_ _ | refine blk_drew ?_ | refine blk_alloc ?_ _)); exact BK169.out) hb); have n2_ := Aside0.mk (blk_below (g := gb175) (o := .cells #[.int .i64 x176000_1, .int .i64 x176001_1, .int .i64 x176002_1] 37 (0, 0)) (by (with_reducible repeat (first | refine blk_drewN ?_ _ | refine blk_drew ?_ | refine blk_alloc ?_ _)); exact BK175.out) hb); have n3_ := Aside0.mk (below_step (by repeat (first | (with_reducible first | exact HB.out | apply below_alloc | apply pw_below_drewN | apply below_drew1 | refine below_set ?_ GE165.out | refine below_set ?_ GE169.out | refine below_set ?_ GE175.out) | exact HB.out)) hb); clear BK165; clear BK169; clear BK175; clear HB; have BK165 := n0_; have BK169 := n1_; have BK175 := n2_; have HB := n3_; clear n0_ n1_ n2_ n3_; (try clear hb); (try clear hb2); (try clear hk); (try clear hi); have hcz79_0 : w78.cell? ⟨gb169, 0, none⟩ = some (.int .i64 t166) := (blk_cell BK169.out 0).trans rfl; have hcz79_1 : w78.cell? ⟨gb169, 1, none⟩ = some (.int .i64 t167) := (blk_cell BK169.out 1).trans rfl; have hcz79_2 : w78.cell? ⟨gb169, 2, none⟩ = some (.int .i64 t168) := (blk_cell BK169.out 2).trans rfl; have hfz79_0 := blk_frozen BK169.out 0; have hfz79_1 := blk_frozen BK169.out 1; have hfz79_2 := blk_frozen BK169.out 2; have hcz80_0 : w78.cell? ⟨gb165, 0, none⟩ = some (.int .i64 t162) := (blk_cell BK165.out 0).trans rfl; have hcz80_1 : w78.cell? ⟨gb165, 1, none⟩ = some (.int .i64 t163) := (blk_cell BK165.out 1).trans rfl; have hcz80_2 : w78.cell? ⟨gb165, 2, none⟩ = some (.int .i64 t164) := (blk_cell BK165.out 2).trans rfl; have hfz80_0 := blk_frozen BK165.out 0; have hfz80_1 := blk_frozen BK165.out 1; have hfz80_2 := blk_frozen BK165.out 2; have hcz81_0 : w78.cell? ⟨gb175, 0, none⟩ = some (.int .i64 x176000_1) := (blk_cell BK175.out 0).trans rfl; have hcz81_1 : w78.cell? ⟨gb175, 1, none⟩ = some (.int .i64 x176001_1) := (blk_cell BK175.out 1).trans rfl; have hcz81_2 : w78.cell? ⟨gb175, 2, none⟩ = some (.int .i64 x176002_1) := (blk_cell BK175.out 2).trans rfl; have hfz81_0 := blk_frozen BK175.out 0; have hfz81_1 := blk_frozen BK175.out 1; have hfz81_2 := blk_frozen BK175.out 2))
                        go_ret
                        exact ⟨by first | rfl | (simp [errW_none, errW_some] <;> rfl) | (simp only [← hji60]; first | rfl | (simp [errW_none, errW_some] <;> rfl)) | (simp [*, errW_none, errW_some] <;> rfl), by repeat (first | (with_reducible first | exact HB.out | apply below_alloc | apply pw_below_drewN | apply below_drew1 | refine below_set ?_ GE165.out | refine below_set ?_ GE169.out | refine below_set ?_ GE175.out) | exact HB.out)⟩
                  · rw [if_neg c48] at H
                    have c48b0 : (t166 == t162) = false := beq_eq_false_iff_ne.mpr c48
                    have c48b1 : (t166 != t162) = true := bne_iff_ne.mpr c48
                    by_cases c82 : t166 = (wrap64 (t162 + 1))
                    · rw [if_pos c82] at H
                      have c82b0 : (t166 == (wrap64 (t162 + 1))) = true := beq_iff_eq.mpr c82
                      have c82b1 : (t166 != (wrap64 (t162 + 1))) = false := bne_eq_false_iff_eq.mpr c82
                      clear c82
                      by_cases c83 : t162 < 2
                      · rw [if_pos c83] at H
                        have c83b0 : decide (t162 < 2) = true := decide_eq_true c83
                        clear c83
                        replace H := Option.bind_eq_some_iff.mp H
                        obtain ⟨t182, A840, H⟩ := H
                        replace H : (some t182) = some r := H
                        have A84 := Aside0.mk A840
                        clear A840
                        obtain rfl := Option.some.inj H
                        have hnb85 := NB165_169.out
                        have hnc85 := NB169_165.out
                        have hnb86 := NB165_175.out
                        have hnc86 := NB175_165.out
                        have hcz87_0 : wr.cell? ⟨gb165, 0, none⟩ = some (.int .i64 t162) := (blk_cell BK165.out 0).trans rfl
                        have hcz87_1 : wr.cell? ⟨gb165, 1, none⟩ = some (.int .i64 t163) := (blk_cell BK165.out 1).trans rfl
                        have hcz87_2 : wr.cell? ⟨gb165, 2, none⟩ = some (.int .i64 t164) := (blk_cell BK165.out 2).trans rfl
                        have hfz87_0 := blk_frozen BK165.out 0
                        have hfz87_1 := blk_frozen BK165.out 1
                        have hfz87_2 := blk_frozen BK165.out 2
                        have hnb88 := NB169_175.out
                        have hnc88 := NB175_169.out
                        have hcz89_0 : wr.cell? ⟨gb169, 0, none⟩ = some (.int .i64 t166) := (blk_cell BK169.out 0).trans rfl
                        have hcz89_1 : wr.cell? ⟨gb169, 1, none⟩ = some (.int .i64 t167) := (blk_cell BK169.out 1).trans rfl
                        have hcz89_2 : wr.cell? ⟨gb169, 2, none⟩ = some (.int .i64 t168) := (blk_cell BK169.out 2).trans rfl
                        have hfz89_0 := blk_frozen BK169.out 0
                        have hfz89_1 := blk_frozen BK169.out 1
                        have hfz89_2 := blk_frozen BK169.out 2
                        go_wp2_with (first | ((with_reducible refine gate_callee (f := 34) rfl ?_); refine goesL_ (some 44) rfl rfl Try.func34 (by kernel_rfl) rfl #[.agg #[.int .i64 t166, .int .i64 t167, .int .i64 t168]] rfl (by (try simp only [List.map_toArray, List.map_cons, List.map_nil]); first | done | rfl | (simp only [List.length_drop, List.length_take]; rfl)) ?_; (with_reducible refine (impl_PaceOk.calls t166 t167 t168 true _ A46.out).mono ?_); rintro e w90 ⟨rfl, hb⟩; refine ⟨_, rfl, ?_⟩; have n0_ := Aside0.mk (blk_below (g := gb165) (o := .cells #[.int .i64 t162, .int .i64 t163, .int .i64 t164] 37 (0, 0)) (by (with_reducible repeat (first | refine blk_drewN ?_ _ | refine blk_drew ?_ | refine blk_alloc ?_ _)); exact BK165.out) hb); have n1_ := Aside0.mk (blk_below (g := gb169) (o := .cells #[.int .i64 t166, .int .i64 t167, .int .i64 t168] 37 (0, 0)) (by (with_reducible repeat (first | refine blk_drewN ?_ _ | refine blk_drew ?_ | refine blk_alloc ?_ _)); exact BK169.out) hb); have n2_ := Aside0.mk (blk_below (g := gb175) (o := .cells #[.int .i64 x176000_1, .int .i64 x176001_1, .int .i64 x176002_1] 37 (0, 0)) (by (with_reducible repeat (first | refine blk_drewN ?_ _ | refine blk_drew ?_ | refine blk_alloc ?_ _)); exact BK175.out) hb); have n3_ := Aside0.mk (below_step (by repeat (first | (with_reducible first | exact HB.out | apply below_alloc | apply pw_below_drewN | apply below_drew1 | refine below_set ?_ GE165.out | refine below_set ?_ GE169.out | refine below_set ?_ GE175.out) | exact HB.out)) hb); clear BK165; clear BK169; clear BK175; clear HB; have BK165 := n0_; have BK169 := n1_; have BK175 := n2_; have HB := n3_; clear n0_ n1_ n2_ n3_; (try clear hb); (try clear hb2); (try clear hk); (try clear hi); have hcz91_0 : w90.cell? ⟨gb169, 0, none⟩ = some (.int .i64 t166) := (blk_cell BK169.out 0).trans rfl; have hcz91_1 : w90.cell? ⟨gb169, 1, none⟩ = some (.int .i64 t167) := (blk_cell BK169.out 1).trans rfl; have hcz91_2 : w90.cell? ⟨gb169, 2, none⟩ = some (.int .i64 t168) := (blk_cell BK169.out 2).trans rfl; have hfz91_0 := blk_frozen BK169.out 0; have hfz91_1 := blk_frozen BK169.out 1; have hfz91_2 := blk_frozen BK169.out 2; have hcz92_0 : w90.cell? ⟨gb165, 0, none⟩ = some (.int .i64 t162) := (blk_cell BK165.out 0).trans rfl; have hcz92_1 : w90.cell? ⟨gb165, 1, none⟩ = some (.int .i64 t163) := (blk_cell BK165.out 1).trans rfl; have hcz92_2 : w90.cell? ⟨gb165, 2, none⟩ = some (.int .i64 t164) := (blk_cell BK165.out 2).trans rfl; have hfz92_0 := blk_frozen BK165.out 0; have hfz92_1 := blk_frozen BK165.out 1; have hfz92_2 := blk_frozen BK165.out 2) | (go_at_call 36; (with_reducible refine (laws_alive.calls k1  t182 _ A84.out).mono ?_); rintro e w93 ⟨rfl, hb⟩; have n0_ := Aside0.mk (blk_below (g := gb165) (o := .cells #[.int .i64 t162, .int .i64 t163, .int .i64 t164] 37 (0, 0)) (by (with_reducible repeat (first | refine blk_drewN ?_ _ | refine blk_drew ?_ | refine blk_alloc ?_ _)); exact BK165.out) hb); have n1_ := Aside0.mk (blk_below (g := gb169) (o := .cells #[.int .i64 t166, .int .i64 t167, .int .i64 t168] 37 (0, 0)) (by (with_reducible repeat (first | refine blk_drewN ?_ _ | refine blk_drew ?_ | refine blk_alloc ?_ _)); exact BK169.out) hb); have n2_ := Aside0.mk (blk_below (g := gb175) (o := .cells #[.int .i64 x176000_1, .int .i64 x176001_1, .int .i64 x176002_1] 37 (0, 0)) (by (with_reducible repeat (first | refine blk_drewN ?_ _ | refine blk_drew ?_ | refine blk_alloc ?_ _)); exact BK175.out) hb); have n3_ := Aside0.mk (below_step (by repeat (first | (with_reducible first | exact HB.out | apply below_alloc | apply pw_below_drewN | apply below_drew1 | refine below_set ?_ GE165.out | refine below_set ?_ GE169.out | refine below_set ?_ GE175.out) | exact HB.out)) hb); clear BK165; clear BK169; clear BK175; clear HB; have BK165 := n0_; have BK169 := n1_; have BK175 := n2_; have HB := n3_; clear n0_ n1_ n2_ n3_; (try clear hb); (try clear hb2); (try clear hk); (try clear hi)))
                        go_ret
                        exact ⟨by first | rfl | (simp [errW_none, errW_some] <;> rfl) | (simp [*, errW_none, errW_some] <;> rfl), by repeat (first | (with_reducible first | exact HB.out | apply below_alloc | apply pw_below_drewN | apply below_drew1 | refine below_set ?_ GE165.out | refine below_set ?_ GE169.out | refine below_set ?_ GE175.out) | exact HB.out)⟩
                      · rw [if_neg c83] at H
                        have c83b0 : decide (t162 < 2) = false := decide_eq_false c83
                        clear c83
                        obtain ⟨ji94, hji94⟩ : ∃ j_ : Int, (mn (wrap64 (t162 + 1)) 64) = j_ := ⟨_, rfl⟩
                        replace H : (if x176000_1 = (ji94) then ((laws_alive.f k1).bind fun t183 => (some t183)) else (some false)) = some r := by first | (rw [hji94] at H; exact H) | (simp only [hji94] at H ⊢; exact H)
                        (try rw [hji94] at A46)
                        have hji94_ : (if 64 < (wrap64 (t162 + 1)) then 64 else (wrap64 (t162 + 1))) = ji94 := hji94
                        by_cases c95 : x176000_1 = (ji94)
                        · rw [if_pos c95] at H
                          have c95b0 : (x176000_1 == (ji94)) = true := beq_iff_eq.mpr c95
                          have c95b1 : (x176000_1 != (ji94)) = false := bne_eq_false_iff_eq.mpr c95
                          clear c95
                          replace H := Option.bind_eq_some_iff.mp H
                          obtain ⟨t183, A960, H⟩ := H
                          replace H : (some t183) = some r := H
                          have A96 := Aside0.mk A960
                          clear A960
                          obtain rfl := Option.some.inj H
                          have hnb97 := NB165_169.out
                          have hnc97 := NB169_165.out
                          have hnb98 := NB165_175.out
                          have hnc98 := NB175_165.out
                          have hcz99_0 : wr.cell? ⟨gb165, 0, none⟩ = some (.int .i64 t162) := (blk_cell BK165.out 0).trans rfl
                          have hcz99_1 : wr.cell? ⟨gb165, 1, none⟩ = some (.int .i64 t163) := (blk_cell BK165.out 1).trans rfl
                          have hcz99_2 : wr.cell? ⟨gb165, 2, none⟩ = some (.int .i64 t164) := (blk_cell BK165.out 2).trans rfl
                          have hfz99_0 := blk_frozen BK165.out 0
                          have hfz99_1 := blk_frozen BK165.out 1
                          have hfz99_2 := blk_frozen BK165.out 2
                          have hnb100 := NB169_175.out
                          have hnc100 := NB175_169.out
                          have hcz101_0 : wr.cell? ⟨gb169, 0, none⟩ = some (.int .i64 t166) := (blk_cell BK169.out 0).trans rfl
                          have hcz101_1 : wr.cell? ⟨gb169, 1, none⟩ = some (.int .i64 t167) := (blk_cell BK169.out 1).trans rfl
                          have hcz101_2 : wr.cell? ⟨gb169, 2, none⟩ = some (.int .i64 t168) := (blk_cell BK169.out 2).trans rfl
                          have hfz101_0 := blk_frozen BK169.out 0
                          have hfz101_1 := blk_frozen BK169.out 1
                          have hfz101_2 := blk_frozen BK169.out 2
                          go_wp2_with (first | ((with_reducible refine gate_callee (f := 34) rfl ?_); refine goesL_ (some 44) rfl rfl Try.func34 (by kernel_rfl) rfl #[.agg #[.int .i64 t166, .int .i64 t167, .int .i64 t168]] rfl (by (try simp only [List.map_toArray, List.map_cons, List.map_nil]); first | done | rfl | (simp only [List.length_drop, List.length_take]; rfl)) ?_; (with_reducible refine (impl_PaceOk.calls t166 t167 t168 true _ A46.out).mono ?_); rintro e w102 ⟨rfl, hb⟩; refine ⟨_, rfl, ?_⟩; have n0_ := Aside0.mk (blk_below (g := gb165) (o := .cells #[.int .i64 t162, .int .i64 t163, .int .i64 t164] 37 (0, 0)) (by (with_reducible repeat (first | refine blk_drewN ?_ _ | refine blk_drew ?_ | refine blk_alloc ?_ _)); exact BK165.out) hb); have n1_ := Aside0.mk (blk_below (g := gb169) (o := .cells #[.int .i64 t166, .int .i64 t167, .int .i64 t168] 37 (0, 0)) (by (with_reducible repeat (first | refine blk_drewN ?_ _ | refine blk_drew ?_ | refine blk_alloc ?_ _)); exact BK169.out) hb); have n2_ := Aside0.mk (blk_below (g := gb175) (o := .cells #[.int .i64 x176000_1, .int .i64 x176001_1, .int .i64 x176002_1] 37 (0, 0)) (by (with_reducible repeat (first | refine blk_drewN ?_ _ | refine blk_drew ?_ | refine blk_alloc ?_ _)); exact BK175.out) hb); have n3_ := Aside0.mk (below_step (by repeat (first | (with_reducible first | exact HB.out | apply below_alloc | apply pw_below_drewN | apply below_drew1 | refine below_set ?_ GE165.out | refine below_set ?_ GE169.out | refine below_set ?_ GE175.out) | exact HB.out)) hb); clear BK165; clear BK169; clear BK175; clear HB; have BK165 := n0_; have BK169 := n1_; have BK175 := n2_; have HB := n3_; clear n0_ n1_ n2_ n3_; (try clear hb); (try clear hb2); (try clear hk); (try clear hi); have hcz103_0 : w102.cell? ⟨gb169, 0, none⟩ = some (.int .i64 t166) := (blk_cell BK169.out 0).trans rfl; have hcz103_1 : w102.cell? ⟨gb169, 1, none⟩ = some (.int .i64 t167) := (blk_cell BK169.out 1).trans rfl; have hcz103_2 : w102.cell? ⟨gb169, 2, none⟩ = some (.int .i64 t168) := (blk_cell BK169.out 2).trans rfl; have hfz103_0 := blk_frozen BK169.out 0; have hfz103_1 := blk_frozen BK169.out 1; have hfz103_2 := blk_frozen BK169.out 2; have hcz104_0 : w102.cell? ⟨gb165, 0, none⟩ = some (.int .i64 t162) := (blk_cell BK165.out 0).trans rfl; have hcz104_1 : w102.cell? ⟨gb165, 1, none⟩ = some (.int .i64 t163) := (blk_cell BK165.out 1).trans rfl; have hcz104_2 : w102.cell? ⟨gb165, 2, none⟩ = some (.int .i64 t164) := (blk_cell BK165.out 2).trans rfl; have hfz104_0 := blk_frozen BK165.out 0; have hfz104_1 := blk_frozen BK165.out 1; have hfz104_2 := blk_frozen BK165.out 2; have hcz105_0 : w102.cell? ⟨gb175, 0, none⟩ = some (.int .i64 x176000_1) := (blk_cell BK175.out 0).trans rfl; have hcz105_1 : w102.cell? ⟨gb175, 1, none⟩ = some (.int .i64 x176001_1) := (blk_cell BK175.out 1).trans rfl; have hcz105_2 : w102.cell? ⟨gb175, 2, none⟩ = some (.int .i64 x176002_1) := (blk_cell BK175.out 2).trans rfl; have hfz105_0 := blk_frozen BK175.out 0; have hfz105_1 := blk_frozen BK175.out 1; have hfz105_2 := blk_frozen BK175.out 2) | (go_at_call 36; (with_reducible refine (laws_alive.calls k1  t183 _ A96.out).mono ?_); rintro e w106 ⟨rfl, hb⟩; have n0_ := Aside0.mk (blk_below (g := gb165) (o := .cells #[.int .i64 t162, .int .i64 t163, .int .i64 t164] 37 (0, 0)) (by (with_reducible repeat (first | refine blk_drewN ?_ _ | refine blk_drew ?_ | refine blk_alloc ?_ _)); exact BK165.out) hb); have n1_ := Aside0.mk (blk_below (g := gb169) (o := .cells #[.int .i64 t166, .int .i64 t167, .int .i64 t168] 37 (0, 0)) (by (with_reducible repeat (first | refine blk_drewN ?_ _ | refine blk_drew ?_ | refine blk_alloc ?_ _)); exact BK169.out) hb); have n2_ := Aside0.mk (blk_below (g := gb175) (o := .cells #[.int .i64 x176000_1, .int .i64 x176001_1, .int .i64 x176002_1] 37 (0, 0)) (by (with_reducible repeat (first | refine blk_drewN ?_ _ | refine blk_drew ?_ | refine blk_alloc ?_ _)); exact BK175.out) hb); have n3_ := Aside0.mk (below_step (by repeat (first | (with_reducible first | exact HB.out | apply below_alloc | apply pw_below_drewN | apply below_drew1 | refine below_set ?_ GE165.out | refine below_set ?_ GE169.out | refine below_set ?_ GE175.out) | exact HB.out)) hb); clear BK165; clear BK169; clear BK175; clear HB; have BK165 := n0_; have BK169 := n1_; have BK175 := n2_; have HB := n3_; clear n0_ n1_ n2_ n3_; (try clear hb); (try clear hb2); (try clear hk); (try clear hi)))
                          go_ret
                          exact ⟨by first | rfl | (simp [errW_none, errW_some] <;> rfl) | (simp only [← hji94]; first | rfl | (simp [errW_none, errW_some] <;> rfl)) | (simp [*, errW_none, errW_some] <;> rfl), by repeat (first | (with_reducible first | exact HB.out | apply below_alloc | apply pw_below_drewN | apply below_drew1 | refine below_set ?_ GE165.out | refine below_set ?_ GE169.out | refine below_set ?_ GE175.out) | exact HB.out)⟩
                        · rw [if_neg c95] at H
                          have c95b0 : (x176000_1 == (ji94)) = false := beq_eq_false_iff_ne.mpr c95
                          have c95b1 : (x176000_1 != (ji94)) = true := bne_iff_ne.mpr c95
                          obtain rfl := Option.some.inj H
                          have hnb107 := NB165_169.out
                          have hnc107 := NB169_165.out
                          have hnb108 := NB165_175.out
                          have hnc108 := NB175_165.out
                          have hcz109_0 : wr.cell? ⟨gb165, 0, none⟩ = some (.int .i64 t162) := (blk_cell BK165.out 0).trans rfl
                          have hcz109_1 : wr.cell? ⟨gb165, 1, none⟩ = some (.int .i64 t163) := (blk_cell BK165.out 1).trans rfl
                          have hcz109_2 : wr.cell? ⟨gb165, 2, none⟩ = some (.int .i64 t164) := (blk_cell BK165.out 2).trans rfl
                          have hfz109_0 := blk_frozen BK165.out 0
                          have hfz109_1 := blk_frozen BK165.out 1
                          have hfz109_2 := blk_frozen BK165.out 2
                          have hnb110 := NB169_175.out
                          have hnc110 := NB175_169.out
                          have hcz111_0 : wr.cell? ⟨gb169, 0, none⟩ = some (.int .i64 t166) := (blk_cell BK169.out 0).trans rfl
                          have hcz111_1 : wr.cell? ⟨gb169, 1, none⟩ = some (.int .i64 t167) := (blk_cell BK169.out 1).trans rfl
                          have hcz111_2 : wr.cell? ⟨gb169, 2, none⟩ = some (.int .i64 t168) := (blk_cell BK169.out 2).trans rfl
                          have hfz111_0 := blk_frozen BK169.out 0
                          have hfz111_1 := blk_frozen BK169.out 1
                          have hfz111_2 := blk_frozen BK169.out 2
                          go_wp2_with (first | ((with_reducible refine gate_callee (f := 34) rfl ?_); refine goesL_ (some 44) rfl rfl Try.func34 (by kernel_rfl) rfl #[.agg #[.int .i64 t166, .int .i64 t167, .int .i64 t168]] rfl (by (try simp only [List.map_toArray, List.map_cons, List.map_nil]); first | done | rfl | (simp only [List.length_drop, List.length_take]; rfl)) ?_; (with_reducible refine (impl_PaceOk.calls t166 t167 t168 true _ A46.out).mono ?_); rintro e w112 ⟨rfl, hb⟩; refine ⟨_, rfl, ?_⟩; have n0_ := Aside0.mk (blk_below (g := gb165) (o := .cells #[.int .i64 t162, .int .i64 t163, .int .i64 t164] 37 (0, 0)) (by (with_reducible repeat (first | refine blk_drewN ?_ _ | refine blk_drew ?_ | refine blk_alloc ?_ _)); exact BK165.out) hb); have n1_ := Aside0.mk (blk_below (g := gb169) (o := .cells #[.int .i64 t166, .int .i64 t167, .int .i64 t168] 37 (0, 0)) (by (with_reducible repeat (first | refine blk_drewN ?_ _ | refine blk_drew ?_ | refine blk_alloc ?_ _)); exact BK169.out) hb); have n2_ := Aside0.mk (blk_below (g := gb175) (o := .cells #[.int .i64 x176000_1, .int .i64 x176001_1, .int .i64 x176002_1] 37 (0, 0)) (by (with_reducible repeat (first | refine blk_drewN ?_ _ | refine blk_drew ?_ | refine blk_alloc ?_ _)); exact BK175.out) hb); have n3_ := Aside0.mk (below_step (by repeat (first | (with_reducible first | exact HB.out | apply below_alloc | apply pw_below_drewN | apply below_drew1 | refine below_set ?_ GE165.out | refine below_set ?_ GE169.out | refine below_set ?_ GE175.out) | exact HB.out)) hb); clear BK165; clear BK169; clear BK175; clear HB; have BK165 := n0_; have BK169 := n1_; have BK175 := n2_; have HB := n3_; clear n0_ n1_ n2_ n3_; (try clear hb); (try clear hb2); (try clear hk); (try clear hi); have hcz113_0 : w112.cell? ⟨gb169, 0, none⟩ = some (.int .i64 t166) := (blk_cell BK169.out 0).trans rfl; have hcz113_1 : w112.cell? ⟨gb169, 1, none⟩ = some (.int .i64 t167) := (blk_cell BK169.out 1).trans rfl; have hcz113_2 : w112.cell? ⟨gb169, 2, none⟩ = some (.int .i64 t168) := (blk_cell BK169.out 2).trans rfl; have hfz113_0 := blk_frozen BK169.out 0; have hfz113_1 := blk_frozen BK169.out 1; have hfz113_2 := blk_frozen BK169.out 2; have hcz114_0 : w112.cell? ⟨gb165, 0, none⟩ = some (.int .i64 t162) := (blk_cell BK165.out 0).trans rfl; have hcz114_1 : w112.cell? ⟨gb165, 1, none⟩ = some (.int .i64 t163) := (blk_cell BK165.out 1).trans rfl; have hcz114_2 : w112.cell? ⟨gb165, 2, none⟩ = some (.int .i64 t164) := (blk_cell BK165.out 2).trans rfl; have hfz114_0 := blk_frozen BK165.out 0; have hfz114_1 := blk_frozen BK165.out 1; have hfz114_2 := blk_frozen BK165.out 2; have hcz115_0 : w112.cell? ⟨gb175, 0, none⟩ = some (.int .i64 x176000_1) := (blk_cell BK175.out 0).trans rfl; have hcz115_1 : w112.cell? ⟨gb175, 1, none⟩ = some (.int .i64 x176001_1) := (blk_cell BK175.out 1).trans rfl; have hcz115_2 : w112.cell? ⟨gb175, 2, none⟩ = some (.int .i64 x176002_1) := (blk_cell BK175.out 2).trans rfl; have hfz115_0 := blk_frozen BK175.out 0; have hfz115_1 := blk_frozen BK175.out 1; have hfz115_2 := blk_frozen BK175.out 2))
                          go_ret
                          exact ⟨by first | rfl | (simp [errW_none, errW_some] <;> rfl) | (simp only [← hji94]; first | rfl | (simp [errW_none, errW_some] <;> rfl)) | (simp [*, errW_none, errW_some] <;> rfl), by repeat (first | (with_reducible first | exact HB.out | apply below_alloc | apply pw_below_drewN | apply below_drew1 | refine below_set ?_ GE165.out | refine below_set ?_ GE169.out | refine below_set ?_ GE175.out) | exact HB.out)⟩
                    · rw [if_neg c82] at H
                      have c82b0 : (t166 == (wrap64 (t162 + 1))) = false := beq_eq_false_iff_ne.mpr c82
                      have c82b1 : (t166 != (wrap64 (t162 + 1))) = true := bne_iff_ne.mpr c82
                      obtain rfl := Option.some.inj H
                      have hnb116 := NB165_169.out
                      have hnc116 := NB169_165.out
                      have hnb117 := NB165_175.out
                      have hnc117 := NB175_165.out
                      have hcz118_0 : wr.cell? ⟨gb165, 0, none⟩ = some (.int .i64 t162) := (blk_cell BK165.out 0).trans rfl
                      have hcz118_1 : wr.cell? ⟨gb165, 1, none⟩ = some (.int .i64 t163) := (blk_cell BK165.out 1).trans rfl
                      have hcz118_2 : wr.cell? ⟨gb165, 2, none⟩ = some (.int .i64 t164) := (blk_cell BK165.out 2).trans rfl
                      have hfz118_0 := blk_frozen BK165.out 0
                      have hfz118_1 := blk_frozen BK165.out 1
                      have hfz118_2 := blk_frozen BK165.out 2
                      have hnb119 := NB169_175.out
                      have hnc119 := NB175_169.out
                      have hcz120_0 : wr.cell? ⟨gb169, 0, none⟩ = some (.int .i64 t166) := (blk_cell BK169.out 0).trans rfl
                      have hcz120_1 : wr.cell? ⟨gb169, 1, none⟩ = some (.int .i64 t167) := (blk_cell BK169.out 1).trans rfl
                      have hcz120_2 : wr.cell? ⟨gb169, 2, none⟩ = some (.int .i64 t168) := (blk_cell BK169.out 2).trans rfl
                      have hfz120_0 := blk_frozen BK169.out 0
                      have hfz120_1 := blk_frozen BK169.out 1
                      have hfz120_2 := blk_frozen BK169.out 2
                      go_wp2_with (first | ((with_reducible refine gate_callee (f := 34) rfl ?_); refine goesL_ (some 44) rfl rfl Try.func34 (by kernel_rfl) rfl #[.agg #[.int .i64 t166, .int .i64 t167, .int .i64 t168]] rfl (by (try simp only [List.map_toArray, List.map_cons, List.map_nil]); first | done | rfl | (simp only [List.length_drop, List.length_take]; rfl)) ?_; (with_reducible refine (impl_PaceOk.calls t166 t167 t168 true _ A46.out).mono ?_); rintro e w121 ⟨rfl, hb⟩; refine ⟨_, rfl, ?_⟩; have n0_ := Aside0.mk (blk_below (g := gb165) (o := .cells #[.int .i64 t162, .int .i64 t163, .int .i64 t164] 37 (0, 0)) (by (with_reducible repeat (first | refine blk_drewN ?_ _ | refine blk_drew ?_ | refine blk_alloc ?_ _)); exact BK165.out) hb); have n1_ := Aside0.mk (blk_below (g := gb169) (o := .cells #[.int .i64 t166, .int .i64 t167, .int .i64 t168] 37 (0, 0)) (by (with_reducible repeat (first | refine blk_drewN ?_ _ | refine blk_drew ?_ | refine blk_alloc ?_ _)); exact BK169.out) hb); have n2_ := Aside0.mk (blk_below (g := gb175) (o := .cells #[.int .i64 x176000_1, .int .i64 x176001_1, .int .i64 x176002_1] 37 (0, 0)) (by (with_reducible repeat (first | refine blk_drewN ?_ _ | refine blk_drew ?_ | refine blk_alloc ?_ _)); exact BK175.out) hb); have n3_ := Aside0.mk (below_step (by repeat (first | (with_reducible first | exact HB.out | apply below_alloc | apply pw_below_drewN | apply below_drew1 | refine below_set ?_ GE165.out | refine below_set ?_ GE169.out | refine below_set ?_ GE175.out) | exact HB.out)) hb); clear BK165; clear BK169; clear BK175; clear HB; have BK165 := n0_; have BK169 := n1_; have BK175 := n2_; have HB := n3_; clear n0_ n1_ n2_ n3_; (try clear hb); (try clear hb2); (try clear hk); (try clear hi); have hcz122_0 : w121.cell? ⟨gb169, 0, none⟩ = some (.int .i64 t166) := (blk_cell BK169.out 0).trans rfl; have hcz122_1 : w121.cell? ⟨gb169, 1, none⟩ = some (.int .i64 t167) := (blk_cell BK169.out 1).trans rfl; have hcz122_2 : w121.cell? ⟨gb169, 2, none⟩ = some (.int .i64 t168) := (blk_cell BK169.out 2).trans rfl; have hfz122_0 := blk_frozen BK169.out 0; have hfz122_1 := blk_frozen BK169.out 1; have hfz122_2 := blk_frozen BK169.out 2; have hcz123_0 : w121.cell? ⟨gb165, 0, none⟩ = some (.int .i64 t162) := (blk_cell BK165.out 0).trans rfl; have hcz123_1 : w121.cell? ⟨gb165, 1, none⟩ = some (.int .i64 t163) := (blk_cell BK165.out 1).trans rfl; have hcz123_2 : w121.cell? ⟨gb165, 2, none⟩ = some (.int .i64 t164) := (blk_cell BK165.out 2).trans rfl; have hfz123_0 := blk_frozen BK165.out 0; have hfz123_1 := blk_frozen BK165.out 1; have hfz123_2 := blk_frozen BK165.out 2))
                      go_ret
                      exact ⟨by first | rfl | (simp [errW_none, errW_some] <;> rfl) | (simp [*, errW_none, errW_some] <;> rfl), by repeat (first | (with_reducible first | exact HB.out | apply below_alloc | apply pw_below_drewN | apply below_drew1 | refine below_set ?_ GE165.out | refine below_set ?_ GE169.out | refine below_set ?_ GE175.out) | exact HB.out)⟩
                · replace c47 := Bool.eq_false_iff.mpr c47
                  subst c47
                  have H1 : (some false) = some r := by rw [if_neg (show ¬ (false = true) by decide)] at H; exact H
                  clear H
                  have H := H1
                  clear H1
                  obtain rfl := Option.some.inj H
                  have hnb124 := NB165_169.out
                  have hnc124 := NB169_165.out
                  have hnb125 := NB165_175.out
                  have hnc125 := NB175_165.out
                  have hcz126_0 : wr.cell? ⟨gb165, 0, none⟩ = some (.int .i64 t162) := (blk_cell BK165.out 0).trans rfl
                  have hcz126_1 : wr.cell? ⟨gb165, 1, none⟩ = some (.int .i64 t163) := (blk_cell BK165.out 1).trans rfl
                  have hcz126_2 : wr.cell? ⟨gb165, 2, none⟩ = some (.int .i64 t164) := (blk_cell BK165.out 2).trans rfl
                  have hfz126_0 := blk_frozen BK165.out 0
                  have hfz126_1 := blk_frozen BK165.out 1
                  have hfz126_2 := blk_frozen BK165.out 2
                  have hnb127 := NB169_175.out
                  have hnc127 := NB175_169.out
                  have hcz128_0 : wr.cell? ⟨gb169, 0, none⟩ = some (.int .i64 t166) := (blk_cell BK169.out 0).trans rfl
                  have hcz128_1 : wr.cell? ⟨gb169, 1, none⟩ = some (.int .i64 t167) := (blk_cell BK169.out 1).trans rfl
                  have hcz128_2 : wr.cell? ⟨gb169, 2, none⟩ = some (.int .i64 t168) := (blk_cell BK169.out 2).trans rfl
                  have hfz128_0 := blk_frozen BK169.out 0
                  have hfz128_1 := blk_frozen BK169.out 1
                  have hfz128_2 := blk_frozen BK169.out 2
                  go_wp2_with (first | ((with_reducible refine gate_callee (f := 34) rfl ?_); refine goesL_ (some 44) rfl rfl Try.func34 (by kernel_rfl) rfl #[.agg #[.int .i64 t166, .int .i64 t167, .int .i64 t168]] rfl (by (try simp only [List.map_toArray, List.map_cons, List.map_nil]); first | done | rfl | (simp only [List.length_drop, List.length_take]; rfl)) ?_; (with_reducible refine (impl_PaceOk.calls t166 t167 t168 false _ A46.out).mono ?_); rintro e w129 ⟨rfl, hb⟩; refine ⟨_, rfl, ?_⟩; have n0_ := Aside0.mk (blk_below (g := gb165) (o := .cells #[.int .i64 t162, .int .i64 t163, .int .i64 t164] 37 (0, 0)) (by (with_reducible repeat (first | refine blk_drewN ?_ _ | refine blk_drew ?_ | refine blk_alloc ?_ _)); exact BK165.out) hb); have n1_ := Aside0.mk (blk_below (g := gb169) (o := .cells #[.int .i64 t166, .int .i64 t167, .int .i64 t168] 37 (0, 0)) (by (with_reducible repeat (first | refine blk_drewN ?_ _ | refine blk_drew ?_ | refine blk_alloc ?_ _)); exact BK169.out) hb); have n2_ := Aside0.mk (blk_below (g := gb175) (o := .cells #[.int .i64 x176000_1, .int .i64 x176001_1, .int .i64 x176002_1] 37 (0, 0)) (by (with_reducible repeat (first | refine blk_drewN ?_ _ | refine blk_drew ?_ | refine blk_alloc ?_ _)); exact BK175.out) hb); have n3_ := Aside0.mk (below_step (by repeat (first | (with_reducible first | exact HB.out | apply below_alloc | apply pw_below_drewN | apply below_drew1 | refine below_set ?_ GE165.out | refine below_set ?_ GE169.out | refine below_set ?_ GE175.out) | exact HB.out)) hb); clear BK165; clear BK169; clear BK175; clear HB; have BK165 := n0_; have BK169 := n1_; have BK175 := n2_; have HB := n3_; clear n0_ n1_ n2_ n3_; (try clear hb); (try clear hb2); (try clear hk); (try clear hi)))
                  go_ret
                  exact ⟨by first | rfl | (simp [errW_none, errW_some] <;> rfl) | (simp [*, errW_none, errW_some] <;> rfl), by repeat (first | (with_reducible first | exact HB.out | apply below_alloc | apply pw_below_drewN | apply below_drew1 | refine below_set ?_ GE165.out | refine below_set ?_ GE169.out | refine below_set ?_ GE175.out) | exact HB.out)⟩
            · rw [if_neg c36] at H
              have c36b0 : decide (x6_1 < t162) = false := decide_eq_false c36
              clear c36
              replace H := Option.bind_eq_some_iff.mp H
              obtain ⟨t184, A1300, H⟩ := H
              replace H : (if t184 = true then (if t166 = t162 then (if t162 < 2 then ((laws_alive.f k1).bind fun t185 => (some t185)) else (if x176000_1 = (mn (wrap64 (t162 + 1)) 64) then ((laws_alive.f k1).bind fun t186 => (some t186)) else (some false))) else (if t166 = (wrap64 (t162 + 1)) then (if t162 < 2 then ((laws_alive.f k1).bind fun t187 => (some t187)) else (if x176000_1 = (mn (wrap64 (t162 + 1)) 64) then ((laws_alive.f k1).bind fun t188 => (some t188)) else (some false))) else (some false))) else (some false)) = some r := H
              have A130 := Aside0.mk A1300
              clear A1300
              by_cases c131 : t184 = true
              · subst c131
                have H1 : (if t166 = t162 then (if t162 < 2 then ((laws_alive.f k1).bind fun t185 => (some t185)) else (if x176000_1 = (mn (wrap64 (t162 + 1)) 64) then ((laws_alive.f k1).bind fun t186 => (some t186)) else (some false))) else (if t166 = (wrap64 (t162 + 1)) then (if t162 < 2 then ((laws_alive.f k1).bind fun t187 => (some t187)) else (if x176000_1 = (mn (wrap64 (t162 + 1)) 64) then ((laws_alive.f k1).bind fun t188 => (some t188)) else (some false))) else (some false))) = some r := by rw [if_pos rfl] at H; exact H
                clear H
                have H := H1
                clear H1
                by_cases c132 : t166 = t162
                · rw [if_pos c132] at H
                  have c132b0 : (t166 == t162) = true := beq_iff_eq.mpr c132
                  have c132b1 : (t166 != t162) = false := bne_eq_false_iff_eq.mpr c132
                  clear c132
                  by_cases c133 : t162 < 2
                  · rw [if_pos c133] at H
                    have c133b0 : decide (t162 < 2) = true := decide_eq_true c133
                    clear c133
                    replace H := Option.bind_eq_some_iff.mp H
                    obtain ⟨t185, A1340, H⟩ := H
                    replace H : (some t185) = some r := H
                    have A134 := Aside0.mk A1340
                    clear A1340
                    obtain rfl := Option.some.inj H
                    have hnb135 := NB165_169.out
                    have hnc135 := NB169_165.out
                    have hnb136 := NB165_175.out
                    have hnc136 := NB175_165.out
                    have hcz137_0 : wr.cell? ⟨gb165, 0, none⟩ = some (.int .i64 t162) := (blk_cell BK165.out 0).trans rfl
                    have hcz137_1 : wr.cell? ⟨gb165, 1, none⟩ = some (.int .i64 t163) := (blk_cell BK165.out 1).trans rfl
                    have hcz137_2 : wr.cell? ⟨gb165, 2, none⟩ = some (.int .i64 t164) := (blk_cell BK165.out 2).trans rfl
                    have hfz137_0 := blk_frozen BK165.out 0
                    have hfz137_1 := blk_frozen BK165.out 1
                    have hfz137_2 := blk_frozen BK165.out 2
                    have hnb138 := NB169_175.out
                    have hnc138 := NB175_169.out
                    have hcz139_0 : wr.cell? ⟨gb169, 0, none⟩ = some (.int .i64 t166) := (blk_cell BK169.out 0).trans rfl
                    have hcz139_1 : wr.cell? ⟨gb169, 1, none⟩ = some (.int .i64 t167) := (blk_cell BK169.out 1).trans rfl
                    have hcz139_2 : wr.cell? ⟨gb169, 2, none⟩ = some (.int .i64 t168) := (blk_cell BK169.out 2).trans rfl
                    have hfz139_0 := blk_frozen BK169.out 0
                    have hfz139_1 := blk_frozen BK169.out 1
                    have hfz139_2 := blk_frozen BK169.out 2
                    go_wp2_with (first | ((with_reducible refine gate_callee (f := 34) rfl ?_); refine goesL_ (some 44) rfl rfl Try.func34 (by kernel_rfl) rfl #[.agg #[.int .i64 t166, .int .i64 t167, .int .i64 t168]] rfl (by (try simp only [List.map_toArray, List.map_cons, List.map_nil]); first | done | rfl | (simp only [List.length_drop, List.length_take]; rfl)) ?_; (with_reducible refine (impl_PaceOk.calls t166 t167 t168 true _ A130.out).mono ?_); rintro e w140 ⟨rfl, hb⟩; refine ⟨_, rfl, ?_⟩; have n0_ := Aside0.mk (blk_below (g := gb165) (o := .cells #[.int .i64 t162, .int .i64 t163, .int .i64 t164] 37 (0, 0)) (by (with_reducible repeat (first | refine blk_drewN ?_ _ | refine blk_drew ?_ | refine blk_alloc ?_ _)); exact BK165.out) hb); have n1_ := Aside0.mk (blk_below (g := gb169) (o := .cells #[.int .i64 t166, .int .i64 t167, .int .i64 t168] 37 (0, 0)) (by (with_reducible repeat (first | refine blk_drewN ?_ _ | refine blk_drew ?_ | refine blk_alloc ?_ _)); exact BK169.out) hb); have n2_ := Aside0.mk (blk_below (g := gb175) (o := .cells #[.int .i64 x176000_1, .int .i64 x176001_1, .int .i64 x176002_1] 37 (0, 0)) (by (with_reducible repeat (first | refine blk_drewN ?_ _ | refine blk_drew ?_ | refine blk_alloc ?_ _)); exact BK175.out) hb); have n3_ := Aside0.mk (below_step (by repeat (first | (with_reducible first | exact HB.out | apply below_alloc | apply pw_below_drewN | apply below_drew1 | refine below_set ?_ GE165.out | refine below_set ?_ GE169.out | refine below_set ?_ GE175.out) | exact HB.out)) hb); clear BK165; clear BK169; clear BK175; clear HB; have BK165 := n0_; have BK169 := n1_; have BK175 := n2_; have HB := n3_; clear n0_ n1_ n2_ n3_; (try clear hb); (try clear hb2); (try clear hk); (try clear hi); have hcz141_0 : w140.cell? ⟨gb169, 0, none⟩ = some (.int .i64 t166) := (blk_cell BK169.out 0).trans rfl; have hcz141_1 : w140.cell? ⟨gb169, 1, none⟩ = some (.int .i64 t167) := (blk_cell BK169.out 1).trans rfl; have hcz141_2 : w140.cell? ⟨gb169, 2, none⟩ = some (.int .i64 t168) := (blk_cell BK169.out 2).trans rfl; have hfz141_0 := blk_frozen BK169.out 0; have hfz141_1 := blk_frozen BK169.out 1; have hfz141_2 := blk_frozen BK169.out 2; have hcz142_0 : w140.cell? ⟨gb165, 0, none⟩ = some (.int .i64 t162) := (blk_cell BK165.out 0).trans rfl; have hcz142_1 : w140.cell? ⟨gb165, 1, none⟩ = some (.int .i64 t163) := (blk_cell BK165.out 1).trans rfl; have hcz142_2 : w140.cell? ⟨gb165, 2, none⟩ = some (.int .i64 t164) := (blk_cell BK165.out 2).trans rfl; have hfz142_0 := blk_frozen BK165.out 0; have hfz142_1 := blk_frozen BK165.out 1; have hfz142_2 := blk_frozen BK165.out 2) | (go_at_call 36; (with_reducible refine (laws_alive.calls k1  t185 _ A134.out).mono ?_); rintro e w143 ⟨rfl, hb⟩; have n0_ := Aside0.mk (blk_below (g := gb165) (o := .cells #[.int .i64 t162, .int .i64 t163, .int .i64 t164] 37 (0, 0)) (by (with_reducible repeat (first | refine blk_drewN ?_ _ | refine blk_drew ?_ | refine blk_alloc ?_ _)); exact BK165.out) hb); have n1_ := Aside0.mk (blk_below (g := gb169) (o := .cells #[.int .i64 t166, .int .i64 t167, .int .i64 t168] 37 (0, 0)) (by (with_reducible repeat (first | refine blk_drewN ?_ _ | refine blk_drew ?_ | refine blk_alloc ?_ _)); exact BK169.out) hb); have n2_ := Aside0.mk (blk_below (g := gb175) (o := .cells #[.int .i64 x176000_1, .int .i64 x176001_1, .int .i64 x176002_1] 37 (0, 0)) (by (with_reducible repeat (first | refine blk_drewN ?_ _ | refine blk_drew ?_ | refine blk_alloc ?_ _)); exact BK175.out) hb); have n3_ := Aside0.mk (below_step (by repeat (first | (with_reducible first | exact HB.out | apply below_alloc | apply pw_below_drewN | apply below_drew1 | refine below_set ?_ GE165.out | refine below_set ?_ GE169.out | refine below_set ?_ GE175.out) | exact HB.out)) hb); clear BK165; clear BK169; clear BK175; clear HB; have BK165 := n0_; have BK169 := n1_; have BK175 := n2_; have HB := n3_; clear n0_ n1_ n2_ n3_; (try clear hb); (try clear hb2); (try clear hk); (try clear hi)))
                    go_ret
                    exact ⟨by first | rfl | (simp [errW_none, errW_some] <;> rfl) | (simp [*, errW_none, errW_some] <;> rfl), by repeat (first | (with_reducible first | exact HB.out | apply below_alloc | apply pw_below_drewN | apply below_drew1 | refine below_set ?_ GE165.out | refine below_set ?_ GE169.out | refine below_set ?_ GE175.out) | exact HB.out)⟩
                  · rw [if_neg c133] at H
                    have c133b0 : decide (t162 < 2) = false := decide_eq_false c133
                    clear c133
                    obtain ⟨ji144, hji144⟩ : ∃ j_ : Int, (mn (wrap64 (t162 + 1)) 64) = j_ := ⟨_, rfl⟩
                    replace H : (if x176000_1 = (ji144) then ((laws_alive.f k1).bind fun t186 => (some t186)) else (some false)) = some r := by first | (rw [hji144] at H; exact H) | (simp only [hji144] at H ⊢; exact H)
                    (try rw [hji144] at A130)
                    have hji144_ : (if 64 < (wrap64 (t162 + 1)) then 64 else (wrap64 (t162 + 1))) = ji144 := hji144
                    by_cases c145 : x176000_1 = (ji144)
                    · rw [if_pos c145] at H
                      have c145b0 : (x176000_1 == (ji144)) = true := beq_iff_eq.mpr c145
                      have c145b1 : (x176000_1 != (ji144)) = false := bne_eq_false_iff_eq.mpr c145
                      clear c145
                      replace H := Option.bind_eq_some_iff.mp H
                      obtain ⟨t186, A1460, H⟩ := H
                      replace H : (some t186) = some r := H
                      have A146 := Aside0.mk A1460
                      clear A1460
                      obtain rfl := Option.some.inj H
                      have hnb147 := NB165_169.out
                      have hnc147 := NB169_165.out
                      have hnb148 := NB165_175.out
                      have hnc148 := NB175_165.out
                      have hcz149_0 : wr.cell? ⟨gb165, 0, none⟩ = some (.int .i64 t162) := (blk_cell BK165.out 0).trans rfl
                      have hcz149_1 : wr.cell? ⟨gb165, 1, none⟩ = some (.int .i64 t163) := (blk_cell BK165.out 1).trans rfl
                      have hcz149_2 : wr.cell? ⟨gb165, 2, none⟩ = some (.int .i64 t164) := (blk_cell BK165.out 2).trans rfl
                      have hfz149_0 := blk_frozen BK165.out 0
                      have hfz149_1 := blk_frozen BK165.out 1
                      have hfz149_2 := blk_frozen BK165.out 2
                      have hnb150 := NB169_175.out
                      have hnc150 := NB175_169.out
                      have hcz151_0 : wr.cell? ⟨gb169, 0, none⟩ = some (.int .i64 t166) := (blk_cell BK169.out 0).trans rfl
                      have hcz151_1 : wr.cell? ⟨gb169, 1, none⟩ = some (.int .i64 t167) := (blk_cell BK169.out 1).trans rfl
                      have hcz151_2 : wr.cell? ⟨gb169, 2, none⟩ = some (.int .i64 t168) := (blk_cell BK169.out 2).trans rfl
                      have hfz151_0 := blk_frozen BK169.out 0
                      have hfz151_1 := blk_frozen BK169.out 1
                      have hfz151_2 := blk_frozen BK169.out 2
                      go_wp2_with (first | ((with_reducible refine gate_callee (f := 34) rfl ?_); refine goesL_ (some 44) rfl rfl Try.func34 (by kernel_rfl) rfl #[.agg #[.int .i64 t166, .int .i64 t167, .int .i64 t168]] rfl (by (try simp only [List.map_toArray, List.map_cons, List.map_nil]); first | done | rfl | (simp only [List.length_drop, List.length_take]; rfl)) ?_; (with_reducible refine (impl_PaceOk.calls t166 t167 t168 true _ A130.out).mono ?_); rintro e w152 ⟨rfl, hb⟩; refine ⟨_, rfl, ?_⟩; have n0_ := Aside0.mk (blk_below (g := gb165) (o := .cells #[.int .i64 t162, .int .i64 t163, .int .i64 t164] 37 (0, 0)) (by (with_reducible repeat (first | refine blk_drewN ?_ _ | refine blk_drew ?_ | refine blk_alloc ?_ _)); exact BK165.out) hb); have n1_ := Aside0.mk (blk_below (g := gb169) (o := .cells #[.int .i64 t166, .int .i64 t167, .int .i64 t168] 37 (0, 0)) (by (with_reducible repeat (first | refine blk_drewN ?_ _ | refine blk_drew ?_ | refine blk_alloc ?_ _)); exact BK169.out) hb); have n2_ := Aside0.mk (blk_below (g := gb175) (o := .cells #[.int .i64 x176000_1, .int .i64 x176001_1, .int .i64 x176002_1] 37 (0, 0)) (by (with_reducible repeat (first | refine blk_drewN ?_ _ | refine blk_drew ?_ | refine blk_alloc ?_ _)); exact BK175.out) hb); have n3_ := Aside0.mk (below_step (by repeat (first | (with_reducible first | exact HB.out | apply below_alloc | apply pw_below_drewN | apply below_drew1 | refine below_set ?_ GE165.out | refine below_set ?_ GE169.out | refine below_set ?_ GE175.out) | exact HB.out)) hb); clear BK165; clear BK169; clear BK175; clear HB; have BK165 := n0_; have BK169 := n1_; have BK175 := n2_; have HB := n3_; clear n0_ n1_ n2_ n3_; (try clear hb); (try clear hb2); (try clear hk); (try clear hi); have hcz153_0 : w152.cell? ⟨gb169, 0, none⟩ = some (.int .i64 t166) := (blk_cell BK169.out 0).trans rfl; have hcz153_1 : w152.cell? ⟨gb169, 1, none⟩ = some (.int .i64 t167) := (blk_cell BK169.out 1).trans rfl; have hcz153_2 : w152.cell? ⟨gb169, 2, none⟩ = some (.int .i64 t168) := (blk_cell BK169.out 2).trans rfl; have hfz153_0 := blk_frozen BK169.out 0; have hfz153_1 := blk_frozen BK169.out 1; have hfz153_2 := blk_frozen BK169.out 2; have hcz154_0 : w152.cell? ⟨gb165, 0, none⟩ = some (.int .i64 t162) := (blk_cell BK165.out 0).trans rfl; have hcz154_1 : w152.cell? ⟨gb165, 1, none⟩ = some (.int .i64 t163) := (blk_cell BK165.out 1).trans rfl; have hcz154_2 : w152.cell? ⟨gb165, 2, none⟩ = some (.int .i64 t164) := (blk_cell BK165.out 2).trans rfl; have hfz154_0 := blk_frozen BK165.out 0; have hfz154_1 := blk_frozen BK165.out 1; have hfz154_2 := blk_frozen BK165.out 2; have hcz155_0 : w152.cell? ⟨gb175, 0, none⟩ = some (.int .i64 x176000_1) := (blk_cell BK175.out 0).trans rfl; have hcz155_1 : w152.cell? ⟨gb175, 1, none⟩ = some (.int .i64 x176001_1) := (blk_cell BK175.out 1).trans rfl; have hcz155_2 : w152.cell? ⟨gb175, 2, none⟩ = some (.int .i64 x176002_1) := (blk_cell BK175.out 2).trans rfl; have hfz155_0 := blk_frozen BK175.out 0; have hfz155_1 := blk_frozen BK175.out 1; have hfz155_2 := blk_frozen BK175.out 2) | (go_at_call 36; (with_reducible refine (laws_alive.calls k1  t186 _ A146.out).mono ?_); rintro e w156 ⟨rfl, hb⟩; have n0_ := Aside0.mk (blk_below (g := gb165) (o := .cells #[.int .i64 t162, .int .i64 t163, .int .i64 t164] 37 (0, 0)) (by (with_reducible repeat (first | refine blk_drewN ?_ _ | refine blk_drew ?_ | refine blk_alloc ?_ _)); exact BK165.out) hb); have n1_ := Aside0.mk (blk_below (g := gb169) (o := .cells #[.int .i64 t166, .int .i64 t167, .int .i64 t168] 37 (0, 0)) (by (with_reducible repeat (first | refine blk_drewN ?_ _ | refine blk_drew ?_ | refine blk_alloc ?_ _)); exact BK169.out) hb); have n2_ := Aside0.mk (blk_below (g := gb175) (o := .cells #[.int .i64 x176000_1, .int .i64 x176001_1, .int .i64 x176002_1] 37 (0, 0)) (by (with_reducible repeat (first | refine blk_drewN ?_ _ | refine blk_drew ?_ | refine blk_alloc ?_ _)); exact BK175.out) hb); have n3_ := Aside0.mk (below_step (by repeat (first | (with_reducible first | exact HB.out | apply below_alloc | apply pw_below_drewN | apply below_drew1 | refine below_set ?_ GE165.out | refine below_set ?_ GE169.out | refine below_set ?_ GE175.out) | exact HB.out)) hb); clear BK165; clear BK169; clear BK175; clear HB; have BK165 := n0_; have BK169 := n1_; have BK175 := n2_; have HB := n3_; clear n0_ n1_ n2_ n3_; (try clear hb); (try clear hb2); (try clear hk); (try clear hi)))
                      go_ret
                      exact ⟨by first | rfl | (simp [errW_none, errW_some] <;> rfl) | (simp only [← hji144]; first | rfl | (simp [errW_none, errW_some] <;> rfl)) | (simp [*, errW_none, errW_some] <;> rfl), by repeat (first | (with_reducible first | exact HB.out | apply below_alloc | apply pw_below_drewN | apply below_drew1 | refine below_set ?_ GE165.out | refine below_set ?_ GE169.out | refine below_set ?_ GE175.out) | exact HB.out)⟩
                    · rw [if_neg c145] at H
                      have c145b0 : (x176000_1 == (ji144)) = false := beq_eq_false_iff_ne.mpr c145
                      have c145b1 : (x176000_1 != (ji144)) = true := bne_iff_ne.mpr c145
                      obtain rfl := Option.some.inj H
                      have hnb157 := NB165_169.out
                      have hnc157 := NB169_165.out
                      have hnb158 := NB165_175.out
                      have hnc158 := NB175_165.out
                      have hcz159_0 : wr.cell? ⟨gb165, 0, none⟩ = some (.int .i64 t162) := (blk_cell BK165.out 0).trans rfl
                      have hcz159_1 : wr.cell? ⟨gb165, 1, none⟩ = some (.int .i64 t163) := (blk_cell BK165.out 1).trans rfl
                      have hcz159_2 : wr.cell? ⟨gb165, 2, none⟩ = some (.int .i64 t164) := (blk_cell BK165.out 2).trans rfl
                      have hfz159_0 := blk_frozen BK165.out 0
                      have hfz159_1 := blk_frozen BK165.out 1
                      have hfz159_2 := blk_frozen BK165.out 2
                      have hnb160 := NB169_175.out
                      have hnc160 := NB175_169.out
                      have hcz161_0 : wr.cell? ⟨gb169, 0, none⟩ = some (.int .i64 t166) := (blk_cell BK169.out 0).trans rfl
                      have hcz161_1 : wr.cell? ⟨gb169, 1, none⟩ = some (.int .i64 t167) := (blk_cell BK169.out 1).trans rfl
                      have hcz161_2 : wr.cell? ⟨gb169, 2, none⟩ = some (.int .i64 t168) := (blk_cell BK169.out 2).trans rfl
                      have hfz161_0 := blk_frozen BK169.out 0
                      have hfz161_1 := blk_frozen BK169.out 1
                      have hfz161_2 := blk_frozen BK169.out 2
                      go_wp2_with (first | ((with_reducible refine gate_callee (f := 34) rfl ?_); refine goesL_ (some 44) rfl rfl Try.func34 (by kernel_rfl) rfl #[.agg #[.int .i64 t166, .int .i64 t167, .int .i64 t168]] rfl (by (try simp only [List.map_toArray, List.map_cons, List.map_nil]); first | done | rfl | (simp only [List.length_drop, List.length_take]; rfl)) ?_; (with_reducible refine (impl_PaceOk.calls t166 t167 t168 true _ A130.out).mono ?_); rintro e w162 ⟨rfl, hb⟩; refine ⟨_, rfl, ?_⟩; have n0_ := Aside0.mk (blk_below (g := gb165) (o := .cells #[.int .i64 t162, .int .i64 t163, .int .i64 t164] 37 (0, 0)) (by (with_reducible repeat (first | refine blk_drewN ?_ _ | refine blk_drew ?_ | refine blk_alloc ?_ _)); exact BK165.out) hb); have n1_ := Aside0.mk (blk_below (g := gb169) (o := .cells #[.int .i64 t166, .int .i64 t167, .int .i64 t168] 37 (0, 0)) (by (with_reducible repeat (first | refine blk_drewN ?_ _ | refine blk_drew ?_ | refine blk_alloc ?_ _)); exact BK169.out) hb); have n2_ := Aside0.mk (blk_below (g := gb175) (o := .cells #[.int .i64 x176000_1, .int .i64 x176001_1, .int .i64 x176002_1] 37 (0, 0)) (by (with_reducible repeat (first | refine blk_drewN ?_ _ | refine blk_drew ?_ | refine blk_alloc ?_ _)); exact BK175.out) hb); have n3_ := Aside0.mk (below_step (by repeat (first | (with_reducible first | exact HB.out | apply below_alloc | apply pw_below_drewN | apply below_drew1 | refine below_set ?_ GE165.out | refine below_set ?_ GE169.out | refine below_set ?_ GE175.out) | exact HB.out)) hb); clear BK165; clear BK169; clear BK175; clear HB; have BK165 := n0_; have BK169 := n1_; have BK175 := n2_; have HB := n3_; clear n0_ n1_ n2_ n3_; (try clear hb); (try clear hb2); (try clear hk); (try clear hi); have hcz163_0 : w162.cell? ⟨gb169, 0, none⟩ = some (.int .i64 t166) := (blk_cell BK169.out 0).trans rfl; have hcz163_1 : w162.cell? ⟨gb169, 1, none⟩ = some (.int .i64 t167) := (blk_cell BK169.out 1).trans rfl; have hcz163_2 : w162.cell? ⟨gb169, 2, none⟩ = some (.int .i64 t168) := (blk_cell BK169.out 2).trans rfl; have hfz163_0 := blk_frozen BK169.out 0; have hfz163_1 := blk_frozen BK169.out 1; have hfz163_2 := blk_frozen BK169.out 2; have hcz164_0 : w162.cell? ⟨gb165, 0, none⟩ = some (.int .i64 t162) := (blk_cell BK165.out 0).trans rfl; have hcz164_1 : w162.cell? ⟨gb165, 1, none⟩ = some (.int .i64 t163) := (blk_cell BK165.out 1).trans rfl; have hcz164_2 : w162.cell? ⟨gb165, 2, none⟩ = some (.int .i64 t164) := (blk_cell BK165.out 2).trans rfl; have hfz164_0 := blk_frozen BK165.out 0; have hfz164_1 := blk_frozen BK165.out 1; have hfz164_2 := blk_frozen BK165.out 2; have hcz165_0 : w162.cell? ⟨gb175, 0, none⟩ = some (.int .i64 x176000_1) := (blk_cell BK175.out 0).trans rfl; have hcz165_1 : w162.cell? ⟨gb175, 1, none⟩ = some (.int .i64 x176001_1) := (blk_cell BK175.out 1).trans rfl; have hcz165_2 : w162.cell? ⟨gb175, 2, none⟩ = some (.int .i64 x176002_1) := (blk_cell BK175.out 2).trans rfl; have hfz165_0 := blk_frozen BK175.out 0; have hfz165_1 := blk_frozen BK175.out 1; have hfz165_2 := blk_frozen BK175.out 2))
                      go_ret
                      exact ⟨by first | rfl | (simp [errW_none, errW_some] <;> rfl) | (simp only [← hji144]; first | rfl | (simp [errW_none, errW_some] <;> rfl)) | (simp [*, errW_none, errW_some] <;> rfl), by repeat (first | (with_reducible first | exact HB.out | apply below_alloc | apply pw_below_drewN | apply below_drew1 | refine below_set ?_ GE165.out | refine below_set ?_ GE169.out | refine below_set ?_ GE175.out) | exact HB.out)⟩
                · rw [if_neg c132] at H
                  have c132b0 : (t166 == t162) = false := beq_eq_false_iff_ne.mpr c132
                  have c132b1 : (t166 != t162) = true := bne_iff_ne.mpr c132
                  by_cases c166 : t166 = (wrap64 (t162 + 1))
                  · rw [if_pos c166] at H
                    have c166b0 : (t166 == (wrap64 (t162 + 1))) = true := beq_iff_eq.mpr c166
                    have c166b1 : (t166 != (wrap64 (t162 + 1))) = false := bne_eq_false_iff_eq.mpr c166
                    clear c166
                    by_cases c167 : t162 < 2
                    · rw [if_pos c167] at H
                      have c167b0 : decide (t162 < 2) = true := decide_eq_true c167
                      clear c167
                      replace H := Option.bind_eq_some_iff.mp H
                      obtain ⟨t187, A1680, H⟩ := H
                      replace H : (some t187) = some r := H
                      have A168 := Aside0.mk A1680
                      clear A1680
                      obtain rfl := Option.some.inj H
                      have hnb169 := NB165_169.out
                      have hnc169 := NB169_165.out
                      have hnb170 := NB165_175.out
                      have hnc170 := NB175_165.out
                      have hcz171_0 : wr.cell? ⟨gb165, 0, none⟩ = some (.int .i64 t162) := (blk_cell BK165.out 0).trans rfl
                      have hcz171_1 : wr.cell? ⟨gb165, 1, none⟩ = some (.int .i64 t163) := (blk_cell BK165.out 1).trans rfl
                      have hcz171_2 : wr.cell? ⟨gb165, 2, none⟩ = some (.int .i64 t164) := (blk_cell BK165.out 2).trans rfl
                      have hfz171_0 := blk_frozen BK165.out 0
                      have hfz171_1 := blk_frozen BK165.out 1
                      have hfz171_2 := blk_frozen BK165.out 2
                      have hnb172 := NB169_175.out
                      have hnc172 := NB175_169.out
                      have hcz173_0 : wr.cell? ⟨gb169, 0, none⟩ = some (.int .i64 t166) := (blk_cell BK169.out 0).trans rfl
                      have hcz173_1 : wr.cell? ⟨gb169, 1, none⟩ = some (.int .i64 t167) := (blk_cell BK169.out 1).trans rfl
                      have hcz173_2 : wr.cell? ⟨gb169, 2, none⟩ = some (.int .i64 t168) := (blk_cell BK169.out 2).trans rfl
                      have hfz173_0 := blk_frozen BK169.out 0
                      have hfz173_1 := blk_frozen BK169.out 1
                      have hfz173_2 := blk_frozen BK169.out 2
                      go_wp2_with (first | ((with_reducible refine gate_callee (f := 34) rfl ?_); refine goesL_ (some 44) rfl rfl Try.func34 (by kernel_rfl) rfl #[.agg #[.int .i64 t166, .int .i64 t167, .int .i64 t168]] rfl (by (try simp only [List.map_toArray, List.map_cons, List.map_nil]); first | done | rfl | (simp only [List.length_drop, List.length_take]; rfl)) ?_; (with_reducible refine (impl_PaceOk.calls t166 t167 t168 true _ A130.out).mono ?_); rintro e w174 ⟨rfl, hb⟩; refine ⟨_, rfl, ?_⟩; have n0_ := Aside0.mk (blk_below (g := gb165) (o := .cells #[.int .i64 t162, .int .i64 t163, .int .i64 t164] 37 (0, 0)) (by (with_reducible repeat (first | refine blk_drewN ?_ _ | refine blk_drew ?_ | refine blk_alloc ?_ _)); exact BK165.out) hb); have n1_ := Aside0.mk (blk_below (g := gb169) (o := .cells #[.int .i64 t166, .int .i64 t167, .int .i64 t168] 37 (0, 0)) (by (with_reducible repeat (first | refine blk_drewN ?_ _ | refine blk_drew ?_ | refine blk_alloc ?_ _)); exact BK169.out) hb); have n2_ := Aside0.mk (blk_below (g := gb175) (o := .cells #[.int .i64 x176000_1, .int .i64 x176001_1, .int .i64 x176002_1] 37 (0, 0)) (by (with_reducible repeat (first | refine blk_drewN ?_ _ | refine blk_drew ?_ | refine blk_alloc ?_ _)); exact BK175.out) hb); have n3_ := Aside0.mk (below_step (by repeat (first | (with_reducible first | exact HB.out | apply below_alloc | apply pw_below_drewN | apply below_drew1 | refine below_set ?_ GE165.out | refine below_set ?_ GE169.out | refine below_set ?_ GE175.out) | exact HB.out)) hb); clear BK165; clear BK169; clear BK175; clear HB; have BK165 := n0_; have BK169 := n1_; have BK175 := n2_; have HB := n3_; clear n0_ n1_ n2_ n3_; (try clear hb); (try clear hb2); (try clear hk); (try clear hi); have hcz175_0 : w174.cell? ⟨gb169, 0, none⟩ = some (.int .i64 t166) := (blk_cell BK169.out 0).trans rfl; have hcz175_1 : w174.cell? ⟨gb169, 1, none⟩ = some (.int .i64 t167) := (blk_cell BK169.out 1).trans rfl; have hcz175_2 : w174.cell? ⟨gb169, 2, none⟩ = some (.int .i64 t168) := (blk_cell BK169.out 2).trans rfl; have hfz175_0 := blk_frozen BK169.out 0; have hfz175_1 := blk_frozen BK169.out 1; have hfz175_2 := blk_frozen BK169.out 2; have hcz176_0 : w174.cell? ⟨gb165, 0, none⟩ = some (.int .i64 t162) := (blk_cell BK165.out 0).trans rfl; have hcz176_1 : w174.cell? ⟨gb165, 1, none⟩ = some (.int .i64 t163) := (blk_cell BK165.out 1).trans rfl; have hcz176_2 : w174.cell? ⟨gb165, 2, none⟩ = some (.int .i64 t164) := (blk_cell BK165.out 2).trans rfl; have hfz176_0 := blk_frozen BK165.out 0; have hfz176_1 := blk_frozen BK165.out 1; have hfz176_2 := blk_frozen BK165.out 2) | (go_at_call 36; (with_reducible refine (laws_alive.calls k1  t187 _ A168.out).mono ?_); rintro e w177 ⟨rfl, hb⟩; have n0_ := Aside0.mk (blk_below (g := gb165) (o := .cells #[.int .i64 t162, .int .i64 t163, .int .i64 t164] 37 (0, 0)) (by (with_reducible repeat (first | refine blk_drewN ?_ _ | refine blk_drew ?_ | refine blk_alloc ?_ _)); exact BK165.out) hb); have n1_ := Aside0.mk (blk_below (g := gb169) (o := .cells #[.int .i64 t166, .int .i64 t167, .int .i64 t168] 37 (0, 0)) (by (with_reducible repeat (first | refine blk_drewN ?_ _ | refine blk_drew ?_ | refine blk_alloc ?_ _)); exact BK169.out) hb); have n2_ := Aside0.mk (blk_below (g := gb175) (o := .cells #[.int .i64 x176000_1, .int .i64 x176001_1, .int .i64 x176002_1] 37 (0, 0)) (by (with_reducible repeat (first | refine blk_drewN ?_ _ | refine blk_drew ?_ | refine blk_alloc ?_ _)); exact BK175.out) hb); have n3_ := Aside0.mk (below_step (by repeat (first | (with_reducible first | exact HB.out | apply below_alloc | apply pw_below_drewN | apply below_drew1 | refine below_set ?_ GE165.out | refine below_set ?_ GE169.out | refine below_set ?_ GE175.out) | exact HB.out)) hb); clear BK165; clear BK169; clear BK175; clear HB; have BK165 := n0_; have BK169 := n1_; have BK175 := n2_; have HB := n3_; clear n0_ n1_ n2_ n3_; (try clear hb); (try clear hb2); (try clear hk); (try clear hi)))
                      go_ret
                      exact ⟨by first | rfl | (simp [errW_none, errW_some] <;> rfl) | (simp [*, errW_none, errW_some] <;> rfl), by repeat (first | (with_reducible first | exact HB.out | apply below_alloc | apply pw_below_drewN | apply below_drew1 | refine below_set ?_ GE165.out | refine below_set ?_ GE169.out | refine below_set ?_ GE175.out) | exact HB.out)⟩
                    · rw [if_neg c167] at H
                      have c167b0 : decide (t162 < 2) = false := decide_eq_false c167
                      clear c167
                      obtain ⟨ji178, hji178⟩ : ∃ j_ : Int, (mn (wrap64 (t162 + 1)) 64) = j_ := ⟨_, rfl⟩
                      replace H : (if x176000_1 = (ji178) then ((laws_alive.f k1).bind fun t188 => (some t188)) else (some false)) = some r := by first | (rw [hji178] at H; exact H) | (simp only [hji178] at H ⊢; exact H)
                      (try rw [hji178] at A130)
                      have hji178_ : (if 64 < (wrap64 (t162 + 1)) then 64 else (wrap64 (t162 + 1))) = ji178 := hji178
                      by_cases c179 : x176000_1 = (ji178)
                      · rw [if_pos c179] at H
                        have c179b0 : (x176000_1 == (ji178)) = true := beq_iff_eq.mpr c179
                        have c179b1 : (x176000_1 != (ji178)) = false := bne_eq_false_iff_eq.mpr c179
                        clear c179
                        replace H := Option.bind_eq_some_iff.mp H
                        obtain ⟨t188, A1800, H⟩ := H
                        replace H : (some t188) = some r := H
                        have A180 := Aside0.mk A1800
                        clear A1800
                        obtain rfl := Option.some.inj H
                        have hnb181 := NB165_169.out
                        have hnc181 := NB169_165.out
                        have hnb182 := NB165_175.out
                        have hnc182 := NB175_165.out
                        have hcz183_0 : wr.cell? ⟨gb165, 0, none⟩ = some (.int .i64 t162) := (blk_cell BK165.out 0).trans rfl
                        have hcz183_1 : wr.cell? ⟨gb165, 1, none⟩ = some (.int .i64 t163) := (blk_cell BK165.out 1).trans rfl
                        have hcz183_2 : wr.cell? ⟨gb165, 2, none⟩ = some (.int .i64 t164) := (blk_cell BK165.out 2).trans rfl
                        have hfz183_0 := blk_frozen BK165.out 0
                        have hfz183_1 := blk_frozen BK165.out 1
                        have hfz183_2 := blk_frozen BK165.out 2
                        have hnb184 := NB169_175.out
                        have hnc184 := NB175_169.out
                        have hcz185_0 : wr.cell? ⟨gb169, 0, none⟩ = some (.int .i64 t166) := (blk_cell BK169.out 0).trans rfl
                        have hcz185_1 : wr.cell? ⟨gb169, 1, none⟩ = some (.int .i64 t167) := (blk_cell BK169.out 1).trans rfl
                        have hcz185_2 : wr.cell? ⟨gb169, 2, none⟩ = some (.int .i64 t168) := (blk_cell BK169.out 2).trans rfl
                        have hfz185_0 := blk_frozen BK169.out 0
                        have hfz185_1 := blk_frozen BK169.out 1
                        have hfz185_2 := blk_frozen BK169.out 2
                        go_wp2_with (first | ((with_reducible refine gate_callee (f := 34) rfl ?_); refine goesL_ (some 44) rfl rfl Try.func34 (by kernel_rfl) rfl #[.agg #[.int .i64 t166, .int .i64 t167, .int .i64 t168]] rfl (by (try simp only [List.map_toArray, List.map_cons, List.map_nil]); first | done | rfl | (simp only [List.length_drop, List.length_take]; rfl)) ?_; (with_reducible refine (impl_PaceOk.calls t166 t167 t168 true _ A130.out).mono ?_); rintro e w186 ⟨rfl, hb⟩; refine ⟨_, rfl, ?_⟩; have n0_ := Aside0.mk (blk_below (g := gb165) (o := .cells #[.int .i64 t162, .int .i64 t163, .int .i64 t164] 37 (0, 0)) (by (with_reducible repeat (first | refine blk_drewN ?_ _ | refine blk_drew ?_ | refine blk_alloc ?_ _)); exact BK165.out) hb); have n1_ := Aside0.mk (blk_below (g := gb169) (o := .cells #[.int .i64 t166, .int .i64 t167, .int .i64 t168] 37 (0, 0)) (by (with_reducible repeat (first | refine blk_drewN ?_ _ | refine blk_drew ?_ | refine blk_alloc ?_ _)); exact BK169.out) hb); have n2_ := Aside0.mk (blk_below (g := gb175) (o := .cells #[.int .i64 x176000_1, .int .i64 x176001_1, .int .i64 x176002_1] 37 (0, 0)) (by (with_reducible repeat (first | refine blk_drewN ?_ _ | refine blk_drew ?_ | refine blk_alloc ?_ _)); exact BK175.out) hb); have n3_ := Aside0.mk (below_step (by repeat (first | (with_reducible first | exact HB.out | apply below_alloc | apply pw_below_drewN | apply below_drew1 | refine below_set ?_ GE165.out | refine below_set ?_ GE169.out | refine below_set ?_ GE175.out) | exact HB.out)) hb); clear BK165; clear BK169; clear BK175; clear HB; have BK165 := n0_; have BK169 := n1_; have BK175 := n2_; have HB := n3_; clear n0_ n1_ n2_ n3_; (try clear hb); (try clear hb2); (try clear hk); (try clear hi); have hcz187_0 : w186.cell? ⟨gb169, 0, none⟩ = some (.int .i64 t166) := (blk_cell BK169.out 0).trans rfl; have hcz187_1 : w186.cell? ⟨gb169, 1, none⟩ = some (.int .i64 t167) := (blk_cell BK169.out 1).trans rfl; have hcz187_2 : w186.cell? ⟨gb169, 2, none⟩ = some (.int .i64 t168) := (blk_cell BK169.out 2).trans rfl; have hfz187_0 := blk_frozen BK169.out 0; have hfz187_1 := blk_frozen BK169.out 1; have hfz187_2 := blk_frozen BK169.out 2; have hcz188_0 : w186.cell? ⟨gb165, 0, none⟩ = some (.int .i64 t162) := (blk_cell BK165.out 0).trans rfl; have hcz188_1 : w186.cell? ⟨gb165, 1, none⟩ = some (.int .i64 t163) := (blk_cell BK165.out 1).trans rfl; have hcz188_2 : w186.cell? ⟨gb165, 2, none⟩ = some (.int .i64 t164) := (blk_cell BK165.out 2).trans rfl; have hfz188_0 := blk_frozen BK165.out 0; have hfz188_1 := blk_frozen BK165.out 1; have hfz188_2 := blk_frozen BK165.out 2; have hcz189_0 : w186.cell? ⟨gb175, 0, none⟩ = some (.int .i64 x176000_1) := (blk_cell BK175.out 0).trans rfl; have hcz189_1 : w186.cell? ⟨gb175, 1, none⟩ = some (.int .i64 x176001_1) := (blk_cell BK175.out 1).trans rfl; have hcz189_2 : w186.cell? ⟨gb175, 2, none⟩ = some (.int .i64 x176002_1) := (blk_cell BK175.out 2).trans rfl; have hfz189_0 := blk_frozen BK175.out 0; have hfz189_1 := blk_frozen BK175.out 1; have hfz189_2 := blk_frozen BK175.out 2) | (go_at_call 36; (with_reducible refine (laws_alive.calls k1  t188 _ A180.out).mono ?_); rintro e w190 ⟨rfl, hb⟩; have n0_ := Aside0.mk (blk_below (g := gb165) (o := .cells #[.int .i64 t162, .int .i64 t163, .int .i64 t164] 37 (0, 0)) (by (with_reducible repeat (first | refine blk_drewN ?_ _ | refine blk_drew ?_ | refine blk_alloc ?_ _)); exact BK165.out) hb); have n1_ := Aside0.mk (blk_below (g := gb169) (o := .cells #[.int .i64 t166, .int .i64 t167, .int .i64 t168] 37 (0, 0)) (by (with_reducible repeat (first | refine blk_drewN ?_ _ | refine blk_drew ?_ | refine blk_alloc ?_ _)); exact BK169.out) hb); have n2_ := Aside0.mk (blk_below (g := gb175) (o := .cells #[.int .i64 x176000_1, .int .i64 x176001_1, .int .i64 x176002_1] 37 (0, 0)) (by (with_reducible repeat (first | refine blk_drewN ?_ _ | refine blk_drew ?_ | refine blk_alloc ?_ _)); exact BK175.out) hb); have n3_ := Aside0.mk (below_step (by repeat (first | (with_reducible first | exact HB.out | apply below_alloc | apply pw_below_drewN | apply below_drew1 | refine below_set ?_ GE165.out | refine below_set ?_ GE169.out | refine below_set ?_ GE175.out) | exact HB.out)) hb); clear BK165; clear BK169; clear BK175; clear HB; have BK165 := n0_; have BK169 := n1_; have BK175 := n2_; have HB := n3_; clear n0_ n1_ n2_ n3_; (try clear hb); (try clear hb2); (try clear hk); (try clear hi)))
                        go_ret
                        exact ⟨by first | rfl | (simp [errW_none, errW_some] <;> rfl) | (simp only [← hji178]; first | rfl | (simp [errW_none, errW_some] <;> rfl)) | (simp [*, errW_none, errW_some] <;> rfl), by repeat (first | (with_reducible first | exact HB.out | apply below_alloc | apply pw_below_drewN | apply below_drew1 | refine below_set ?_ GE165.out | refine below_set ?_ GE169.out | refine below_set ?_ GE175.out) | exact HB.out)⟩
                      · rw [if_neg c179] at H
                        have c179b0 : (x176000_1 == (ji178)) = false := beq_eq_false_iff_ne.mpr c179
                        have c179b1 : (x176000_1 != (ji178)) = true := bne_iff_ne.mpr c179
                        obtain rfl := Option.some.inj H
                        have hnb191 := NB165_169.out
                        have hnc191 := NB169_165.out
                        have hnb192 := NB165_175.out
                        have hnc192 := NB175_165.out
                        have hcz193_0 : wr.cell? ⟨gb165, 0, none⟩ = some (.int .i64 t162) := (blk_cell BK165.out 0).trans rfl
                        have hcz193_1 : wr.cell? ⟨gb165, 1, none⟩ = some (.int .i64 t163) := (blk_cell BK165.out 1).trans rfl
                        have hcz193_2 : wr.cell? ⟨gb165, 2, none⟩ = some (.int .i64 t164) := (blk_cell BK165.out 2).trans rfl
                        have hfz193_0 := blk_frozen BK165.out 0
                        have hfz193_1 := blk_frozen BK165.out 1
                        have hfz193_2 := blk_frozen BK165.out 2
                        have hnb194 := NB169_175.out
                        have hnc194 := NB175_169.out
                        have hcz195_0 : wr.cell? ⟨gb169, 0, none⟩ = some (.int .i64 t166) := (blk_cell BK169.out 0).trans rfl
                        have hcz195_1 : wr.cell? ⟨gb169, 1, none⟩ = some (.int .i64 t167) := (blk_cell BK169.out 1).trans rfl
                        have hcz195_2 : wr.cell? ⟨gb169, 2, none⟩ = some (.int .i64 t168) := (blk_cell BK169.out 2).trans rfl
                        have hfz195_0 := blk_frozen BK169.out 0
                        have hfz195_1 := blk_frozen BK169.out 1
                        have hfz195_2 := blk_frozen BK169.out 2
                        go_wp2_with (first | ((with_reducible refine gate_callee (f := 34) rfl ?_); refine goesL_ (some 44) rfl rfl Try.func34 (by kernel_rfl) rfl #[.agg #[.int .i64 t166, .int .i64 t167, .int .i64 t168]] rfl (by (try simp only [List.map_toArray, List.map_cons, List.map_nil]); first | done | rfl | (simp only [List.length_drop, List.length_take]; rfl)) ?_; (with_reducible refine (impl_PaceOk.calls t166 t167 t168 true _ A130.out).mono ?_); rintro e w196 ⟨rfl, hb⟩; refine ⟨_, rfl, ?_⟩; have n0_ := Aside0.mk (blk_below (g := gb165) (o := .cells #[.int .i64 t162, .int .i64 t163, .int .i64 t164] 37 (0, 0)) (by (with_reducible repeat (first | refine blk_drewN ?_ _ | refine blk_drew ?_ | refine blk_alloc ?_ _)); exact BK165.out) hb); have n1_ := Aside0.mk (blk_below (g := gb169) (o := .cells #[.int .i64 t166, .int .i64 t167, .int .i64 t168] 37 (0, 0)) (by (with_reducible repeat (first | refine blk_drewN ?_ _ | refine blk_drew ?_ | refine blk_alloc ?_ _)); exact BK169.out) hb); have n2_ := Aside0.mk (blk_below (g := gb175) (o := .cells #[.int .i64 x176000_1, .int .i64 x176001_1, .int .i64 x176002_1] 37 (0, 0)) (by (with_reducible repeat (first | refine blk_drewN ?_ _ | refine blk_drew ?_ | refine blk_alloc ?_ _)); exact BK175.out) hb); have n3_ := Aside0.mk (below_step (by repeat (first | (with_reducible first | exact HB.out | apply below_alloc | apply pw_below_drewN | apply below_drew1 | refine below_set ?_ GE165.out | refine below_set ?_ GE169.out | refine below_set ?_ GE175.out) | exact HB.out)) hb); clear BK165; clear BK169; clear BK175; clear HB; have BK165 := n0_; have BK169 := n1_; have BK175 := n2_; have HB := n3_; clear n0_ n1_ n2_ n3_; (try clear hb); (try clear hb2); (try clear hk); (try clear hi); have hcz197_0 : w196.cell? ⟨gb169, 0, none⟩ = some (.int .i64 t166) := (blk_cell BK169.out 0).trans rfl; have hcz197_1 : w196.cell? ⟨gb169, 1, none⟩ = some (.int .i64 t167) := (blk_cell BK169.out 1).trans rfl; have hcz197_2 : w196.cell? ⟨gb169, 2, none⟩ = some (.int .i64 t168) := (blk_cell BK169.out 2).trans rfl; have hfz197_0 := blk_frozen BK169.out 0; have hfz197_1 := blk_frozen BK169.out 1; have hfz197_2 := blk_frozen BK169.out 2; have hcz198_0 : w196.cell? ⟨gb165, 0, none⟩ = some (.int .i64 t162) := (blk_cell BK165.out 0).trans rfl; have hcz198_1 : w196.cell? ⟨gb165, 1, none⟩ = some (.int .i64 t163) := (blk_cell BK165.out 1).trans rfl; have hcz198_2 : w196.cell? ⟨gb165, 2, none⟩ = some (.int .i64 t164) := (blk_cell BK165.out 2).trans rfl; have hfz198_0 := blk_frozen BK165.out 0; have hfz198_1 := blk_frozen BK165.out 1; have hfz198_2 := blk_frozen BK165.out 2; have hcz199_0 : w196.cell? ⟨gb175, 0, none⟩ = some (.int .i64 x176000_1) := (blk_cell BK175.out 0).trans rfl; have hcz199_1 : w196.cell? ⟨gb175, 1, none⟩ = some (.int .i64 x176001_1) := (blk_cell BK175.out 1).trans rfl; have hcz199_2 : w196.cell? ⟨gb175, 2, none⟩ = some (.int .i64 x176002_1) := (blk_cell BK175.out 2).trans rfl; have hfz199_0 := blk_frozen BK175.out 0; have hfz199_1 := blk_frozen BK175.out 1; have hfz199_2 := blk_frozen BK175.out 2))
                        go_ret
                        exact ⟨by first | rfl | (simp [errW_none, errW_some] <;> rfl) | (simp only [← hji178]; first | rfl | (simp [errW_none, errW_some] <;> rfl)) | (simp [*, errW_none, errW_some] <;> rfl), by repeat (first | (with_reducible first | exact HB.out | apply below_alloc | apply pw_below_drewN | apply below_drew1 | refine below_set ?_ GE165.out | refine below_set ?_ GE169.out | refine below_set ?_ GE175.out) | exact HB.out)⟩
                  · rw [if_neg c166] at H
                    have c166b0 : (t166 == (wrap64 (t162 + 1))) = false := beq_eq_false_iff_ne.mpr c166
                    have c166b1 : (t166 != (wrap64 (t162 + 1))) = true := bne_iff_ne.mpr c166
                    obtain rfl := Option.some.inj H
                    have hnb200 := NB165_169.out
                    have hnc200 := NB169_165.out
                    have hnb201 := NB165_175.out
                    have hnc201 := NB175_165.out
                    have hcz202_0 : wr.cell? ⟨gb165, 0, none⟩ = some (.int .i64 t162) := (blk_cell BK165.out 0).trans rfl
                    have hcz202_1 : wr.cell? ⟨gb165, 1, none⟩ = some (.int .i64 t163) := (blk_cell BK165.out 1).trans rfl
                    have hcz202_2 : wr.cell? ⟨gb165, 2, none⟩ = some (.int .i64 t164) := (blk_cell BK165.out 2).trans rfl
                    have hfz202_0 := blk_frozen BK165.out 0
                    have hfz202_1 := blk_frozen BK165.out 1
                    have hfz202_2 := blk_frozen BK165.out 2
                    have hnb203 := NB169_175.out
                    have hnc203 := NB175_169.out
                    have hcz204_0 : wr.cell? ⟨gb169, 0, none⟩ = some (.int .i64 t166) := (blk_cell BK169.out 0).trans rfl
                    have hcz204_1 : wr.cell? ⟨gb169, 1, none⟩ = some (.int .i64 t167) := (blk_cell BK169.out 1).trans rfl
                    have hcz204_2 : wr.cell? ⟨gb169, 2, none⟩ = some (.int .i64 t168) := (blk_cell BK169.out 2).trans rfl
                    have hfz204_0 := blk_frozen BK169.out 0
                    have hfz204_1 := blk_frozen BK169.out 1
                    have hfz204_2 := blk_frozen BK169.out 2
                    go_wp2_with (first | ((with_reducible refine gate_callee (f := 34) rfl ?_); refine goesL_ (some 44) rfl rfl Try.func34 (by kernel_rfl) rfl #[.agg #[.int .i64 t166, .int .i64 t167, .int .i64 t168]] rfl (by (try simp only [List.map_toArray, List.map_cons, List.map_nil]); first | done | rfl | (simp only [List.length_drop, List.length_take]; rfl)) ?_; (with_reducible refine (impl_PaceOk.calls t166 t167 t168 true _ A130.out).mono ?_); rintro e w205 ⟨rfl, hb⟩; refine ⟨_, rfl, ?_⟩; have n0_ := Aside0.mk (blk_below (g := gb165) (o := .cells #[.int .i64 t162, .int .i64 t163, .int .i64 t164] 37 (0, 0)) (by (with_reducible repeat (first | refine blk_drewN ?_ _ | refine blk_drew ?_ | refine blk_alloc ?_ _)); exact BK165.out) hb); have n1_ := Aside0.mk (blk_below (g := gb169) (o := .cells #[.int .i64 t166, .int .i64 t167, .int .i64 t168] 37 (0, 0)) (by (with_reducible repeat (first | refine blk_drewN ?_ _ | refine blk_drew ?_ | refine blk_alloc ?_ _)); exact BK169.out) hb); have n2_ := Aside0.mk (blk_below (g := gb175) (o := .cells #[.int .i64 x176000_1, .int .i64 x176001_1, .int .i64 x176002_1] 37 (0, 0)) (by (with_reducible repeat (first | refine blk_drewN ?_ _ | refine blk_drew ?_ | refine blk_alloc ?_ _)); exact BK175.out) hb); have n3_ := Aside0.mk (below_step (by repeat (first | (with_reducible first | exact HB.out | apply below_alloc | apply pw_below_drewN | apply below_drew1 | refine below_set ?_ GE165.out | refine below_set ?_ GE169.out | refine below_set ?_ GE175.out) | exact HB.out)) hb); clear BK165; clear BK169; clear BK175; clear HB; have BK165 := n0_; have BK169 := n1_; have BK175 := n2_; have HB := n3_; clear n0_ n1_ n2_ n3_; (try clear hb); (try clear hb2); (try clear hk); (try clear hi); have hcz206_0 : w205.cell? ⟨gb169, 0, none⟩ = some (.int .i64 t166) := (blk_cell BK169.out 0).trans rfl; have hcz206_1 : w205.cell? ⟨gb169, 1, none⟩ = some (.int .i64 t167) := (blk_cell BK169.out 1).trans rfl; have hcz206_2 : w205.cell? ⟨gb169, 2, none⟩ = some (.int .i64 t168) := (blk_cell BK169.out 2).trans rfl; have hfz206_0 := blk_frozen BK169.out 0; have hfz206_1 := blk_frozen BK169.out 1; have hfz206_2 := blk_frozen BK169.out 2; have hcz207_0 : w205.cell? ⟨gb165, 0, none⟩ = some (.int .i64 t162) := (blk_cell BK165.out 0).trans rfl; have hcz207_1 : w205.cell? ⟨gb165, 1, none⟩ = some (.int .i64 t163) := (blk_cell BK165.out 1).trans rfl; have hcz207_2 : w205.cell? ⟨gb165, 2, none⟩ = some (.int .i64 t164) := (blk_cell BK165.out 2).trans rfl; have hfz207_0 := blk_frozen BK165.out 0; have hfz207_1 := blk_frozen BK165.out 1; have hfz207_2 := blk_frozen BK165.out 2))
                    go_ret
                    exact ⟨by first | rfl | (simp [errW_none, errW_some] <;> rfl) | (simp [*, errW_none, errW_some] <;> rfl), by repeat (first | (with_reducible first | exact HB.out | apply below_alloc | apply pw_below_drewN | apply below_drew1 | refine below_set ?_ GE165.out | refine below_set ?_ GE169.out | refine below_set ?_ GE175.out) | exact HB.out)⟩
              · replace c131 := Bool.eq_false_iff.mpr c131
                subst c131
                have H1 : (some false) = some r := by rw [if_neg (show ¬ (false = true) by decide)] at H; exact H
                clear H
                have H := H1
                clear H1
                obtain rfl := Option.some.inj H
                have hnb208 := NB165_169.out
                have hnc208 := NB169_165.out
                have hnb209 := NB165_175.out
                have hnc209 := NB175_165.out
                have hcz210_0 : wr.cell? ⟨gb165, 0, none⟩ = some (.int .i64 t162) := (blk_cell BK165.out 0).trans rfl
                have hcz210_1 : wr.cell? ⟨gb165, 1, none⟩ = some (.int .i64 t163) := (blk_cell BK165.out 1).trans rfl
                have hcz210_2 : wr.cell? ⟨gb165, 2, none⟩ = some (.int .i64 t164) := (blk_cell BK165.out 2).trans rfl
                have hfz210_0 := blk_frozen BK165.out 0
                have hfz210_1 := blk_frozen BK165.out 1
                have hfz210_2 := blk_frozen BK165.out 2
                have hnb211 := NB169_175.out
                have hnc211 := NB175_169.out
                have hcz212_0 : wr.cell? ⟨gb169, 0, none⟩ = some (.int .i64 t166) := (blk_cell BK169.out 0).trans rfl
                have hcz212_1 : wr.cell? ⟨gb169, 1, none⟩ = some (.int .i64 t167) := (blk_cell BK169.out 1).trans rfl
                have hcz212_2 : wr.cell? ⟨gb169, 2, none⟩ = some (.int .i64 t168) := (blk_cell BK169.out 2).trans rfl
                have hfz212_0 := blk_frozen BK169.out 0
                have hfz212_1 := blk_frozen BK169.out 1
                have hfz212_2 := blk_frozen BK169.out 2
                go_wp2_with (first | ((with_reducible refine gate_callee (f := 34) rfl ?_); refine goesL_ (some 44) rfl rfl Try.func34 (by kernel_rfl) rfl #[.agg #[.int .i64 t166, .int .i64 t167, .int .i64 t168]] rfl (by (try simp only [List.map_toArray, List.map_cons, List.map_nil]); first | done | rfl | (simp only [List.length_drop, List.length_take]; rfl)) ?_; (with_reducible refine (impl_PaceOk.calls t166 t167 t168 false _ A130.out).mono ?_); rintro e w213 ⟨rfl, hb⟩; refine ⟨_, rfl, ?_⟩; have n0_ := Aside0.mk (blk_below (g := gb165) (o := .cells #[.int .i64 t162, .int .i64 t163, .int .i64 t164] 37 (0, 0)) (by (with_reducible repeat (first | refine blk_drewN ?_ _ | refine blk_drew ?_ | refine blk_alloc ?_ _)); exact BK165.out) hb); have n1_ := Aside0.mk (blk_below (g := gb169) (o := .cells #[.int .i64 t166, .int .i64 t167, .int .i64 t168] 37 (0, 0)) (by (with_reducible repeat (first | refine blk_drewN ?_ _ | refine blk_drew ?_ | refine blk_alloc ?_ _)); exact BK169.out) hb); have n2_ := Aside0.mk (blk_below (g := gb175) (o := .cells #[.int .i64 x176000_1, .int .i64 x176001_1, .int .i64 x176002_1] 37 (0, 0)) (by (with_reducible repeat (first | refine blk_drewN ?_ _ | refine blk_drew ?_ | refine blk_alloc ?_ _)); exact BK175.out) hb); have n3_ := Aside0.mk (below_step (by repeat (first | (with_reducible first | exact HB.out | apply below_alloc | apply pw_below_drewN | apply below_drew1 | refine below_set ?_ GE165.out | refine below_set ?_ GE169.out | refine below_set ?_ GE175.out) | exact HB.out)) hb); clear BK165; clear BK169; clear BK175; clear HB; have BK165 := n0_; have BK169 := n1_; have BK175 := n2_; have HB := n3_; clear n0_ n1_ n2_ n3_; (try clear hb); (try clear hb2); (try clear hk); (try clear hi)))
                go_ret
                exact ⟨by first | rfl | (simp [errW_none, errW_some] <;> rfl) | (simp [*, errW_none, errW_some] <;> rfl), by repeat (first | (with_reducible first | exact HB.out | apply below_alloc | apply pw_below_drewN | apply below_drew1 | refine below_set ?_ GE165.out | refine below_set ?_ GE169.out | refine below_set ?_ GE175.out) | exact HB.out)⟩
      · replace c18 := Bool.eq_false_iff.mpr c18
        subst c18
        have H1 : (if (t166 == 0 && (t167 == 0 && (t168 == 0))) = true then ((laws_alive.f k).bind fun t174 => (some t174)) else (some false)) = some r := by rw [if_neg (show ¬ (false = true) by decide)] at H; exact H
        clear H
        have H := H1
        clear H1
        by_cases c214 : (t166 == 0 && (t167 == 0 && (t168 == 0))) = true
        · rw [if_pos c214] at H
          have c214b0 : (t166 == 0 && (t167 == 0 && (t168 == 0))) = true := c214
          (try (have c214b1 : decide (t166 = 0 && (t167 == 0 && (t168 == 0))) = true := by simpa using c214))
          (try (have c214b2 : (t166 == 0 && (t167 == 0 && (t168 == 0))) = true := by simpa using c214))
          clear c214
          replace H := Option.bind_eq_some_iff.mp H
          obtain ⟨t174, A2150, H⟩ := H
          replace H : (some t174) = some r := H
          have A215 := Aside0.mk A2150
          clear A2150
          obtain rfl := Option.some.inj H
          go_enter Try.func11, Try.ntmps11
          try go_wp2_with (first | ((with_reducible refine gate_callee (f := 39) rfl ?_); refine goesL_ (some 11) rfl rfl Try.func39 (by kernel_rfl) rfl #[.slice A0 l0.length c0] rfl (by (try simp only [List.map_toArray, List.map_cons, List.map_nil]); first | done | rfl | (simp only [List.length_drop, List.length_take]; rfl)) ?_; (with_reducible refine (spec_DrawPaceHeard.calls k _ _ l0 t162 t163 t164 _ ?side1 ?side2 A3.out).mono ?_); (case side1 => repeat (first | exact HR0.out | (with_reducible refine Kd.C_alloc ?_ _) | (with_reducible refine Kd.C_drewN ?_ _) | (with_reducible refine Kd.C_drew ?_))); (case side2 => exact HC0.out); rintro e w216 ⟨rfl, hb⟩; refine ⟨_, rfl, ?_⟩; have n0_ := Aside0.mk (below_step (by repeat (first | (with_reducible first | exact HB.out | apply below_alloc | apply pw_below_drewN | apply below_drew1) | exact HB.out)) hb); clear HB; have HB := n0_; clear n0_; (try clear hb); (try clear hb2); (try clear hk); (try clear hi)) | ((with_reducible refine gate_dst (N := 3) rfl ?_); (try (refine gate_guard (by rfl) ?_; dsimp only)); refine box_event ?hg (N := 3) ?hd (cs := #[.int .i64 0, .int .i64 0, .int .i64 0]) (t := 37) ?hr ?_; (case hd => rfl); (case hg => rfl); (case hr => first | (go_simp; done) | (go_simp; rfl)); intro gb165 hg w217 hbox hb; have n0_ := Aside0.mk (below_step (by repeat (first | (with_reducible first | exact HB.out | apply below_alloc | apply pw_below_drewN | apply below_drew1) | exact HB.out)) hb); have n1_ := Aside0.mk (hbox); have n2_ := Aside0.mk ((by rw [hg]; exact (below_size (by repeat (first | (with_reducible first | exact HB.out | apply below_alloc | apply pw_below_drewN | apply below_drew1) | exact HB.out))) : w.heap.size ≤ gb165)); have n3_ := Aside0.mk ((by rw [hg]; exact (below_size (by repeat (first | (with_reducible first | exact HB.out | apply below_alloc | apply pw_below_drewN | apply below_drew1) | exact HB.out))) : w.heap.size ≤ gb165)); clear HB; have HB := n0_; have BK165 := n1_; have GW165 := n2_; have GE165 := n3_; clear n0_ n1_ n2_ n3_; clear hb hbox hg; have hcz218_0 : w217.cell? ⟨gb165, 0, none⟩ = some (.int .i64 0) := (blk_cell BK165.out 0).trans rfl; have hcz218_1 : w217.cell? ⟨gb165, 1, none⟩ = some (.int .i64 0) := (blk_cell BK165.out 1).trans rfl; have hcz218_2 : w217.cell? ⟨gb165, 2, none⟩ = some (.int .i64 0) := (blk_cell BK165.out 2).trans rfl; have hfz218_0 := blk_frozen BK165.out 0; have hfz218_1 := blk_frozen BK165.out 1; have hfz218_2 := blk_frozen BK165.out 2) | ((with_reducible refine gate_callee (f := 30) rfl ?_); refine goesL_ (some 13) rfl rfl Try.func30 (by kernel_rfl) rfl #[.agg #[.int .i64 t162, .int .i64 t163, .int .i64 t164]] rfl (by (try simp only [List.map_toArray, List.map_cons, List.map_nil]); first | done | rfl | (simp only [List.length_drop, List.length_take]; rfl)) ?_; (with_reducible refine (impl_PaceHeard.calls t162 t163 t164 t166 t167 t168 _ A4.out).mono ?_); rintro e w219 ⟨rfl, hb⟩; refine ⟨_, rfl, ?_⟩; have n0_ := Aside0.mk (blk_below (g := gb165) (o := .cells #[.int .i64 t162, .int .i64 t163, .int .i64 t164] 37 (0, 0)) (by (with_reducible repeat (first | refine blk_drewN ?_ _ | refine blk_drew ?_ | refine blk_alloc ?_ _)); refine blk_put (cs := #[.int .i64 t162, .int .i64 t163, .int .i64 0]) ?_ 2 _ rfl; (with_reducible repeat (first | refine blk_drewN ?_ _ | refine blk_drew ?_ | refine blk_alloc ?_ _)); refine blk_put (cs := #[.int .i64 t162, .int .i64 0, .int .i64 0]) ?_ 1 _ rfl; (with_reducible repeat (first | refine blk_drewN ?_ _ | refine blk_drew ?_ | refine blk_alloc ?_ _)); refine blk_put (cs := #[.int .i64 0, .int .i64 0, .int .i64 0]) ?_ 0 _ rfl; (with_reducible repeat (first | refine blk_drewN ?_ _ | refine blk_drew ?_ | refine blk_alloc ?_ _)); exact BK165.out) hb); have n1_ := Aside0.mk (below_step (by repeat (first | (with_reducible first | exact HB.out | apply below_alloc | apply pw_below_drewN | apply below_drew1 | refine below_set ?_ GE165.out) | exact HB.out)) hb); clear BK165; clear HB; have BK165 := n0_; have HB := n1_; clear n0_ n1_; (try clear hb); (try clear hb2); (try clear hk); (try clear hi)) | ((with_reducible refine gate_dst (N := 4) rfl ?_); (try (refine gate_guard (by rfl) ?_; dsimp only)); refine box_event ?hg (N := 4) ?hd (cs := #[.int .i64 0, .int .i64 0, .int .i64 0]) (t := 37) ?hr ?_; (case hd => rfl); (case hg => rfl); (case hr => first | (go_simp; done) | (go_simp; rfl)); intro gb169 hg w220 hbox hb; have n0_ := Aside0.mk (blk_below (g := gb165) (o := .cells #[.int .i64 t162, .int .i64 t163, .int .i64 t164] 37 (0, 0)) (by (with_reducible repeat (first | refine blk_drewN ?_ _ | refine blk_drew ?_ | refine blk_alloc ?_ _)); exact BK165.out) hb); have n1_ := Aside0.mk (below_step (by repeat (first | (with_reducible first | exact HB.out | apply below_alloc | apply pw_below_drewN | apply below_drew1 | refine below_set ?_ GE165.out) | exact HB.out)) hb); have n2_ := Aside0.mk (hbox); have n3_ := Aside0.mk ((by rw [hg]; exact (below_size (by repeat (first | (with_reducible first | exact HB.out | apply below_alloc | apply pw_below_drewN | apply below_drew1 | refine below_set ?_ GE165.out) | exact HB.out))) : w.heap.size ≤ gb169)); have n4_ := Aside0.mk ((by rw [hg]; exact (below_size (by repeat (first | (with_reducible first | exact HB.out | apply below_alloc | apply pw_below_drewN | apply below_drew1 | refine below_set ?_ GE165.out) | exact HB.out))) : w.heap.size ≤ gb169)); have n5_ := Aside0.mk ((by rw [hg]; exact Nat.ne_of_lt (blk_lt (g := gb165) (o := .cells #[.int .i64 t162, .int .i64 t163, .int .i64 t164] 37 (0, 0)) (by (with_reducible repeat (first | refine blk_drewN ?_ _ | refine blk_drew ?_ | refine blk_alloc ?_ _)); exact BK165.out)) : gb165 ≠ gb169)); have n6_ := Aside0.mk ((by rw [hg]; exact Nat.ne_of_gt (blk_lt (g := gb165) (o := .cells #[.int .i64 t162, .int .i64 t163, .int .i64 t164] 37 (0, 0)) (by (with_reducible repeat (first | refine blk_drewN ?_ _ | refine blk_drew ?_ | refine blk_alloc ?_ _)); exact BK165.out)) : gb169 ≠ gb165)); clear BK165; clear HB; have BK165 := n0_; have HB := n1_; have BK169 := n2_; have GW169 := n3_; have GE169 := n4_; have NB165_169 := n5_; have NB169_165 := n6_; clear n0_ n1_ n2_ n3_ n4_ n5_ n6_; clear hb hbox hg; have hnb221 := NB169_165.out; have hnc221 := NB165_169.out; have hcz222_0 : w220.cell? ⟨gb169, 0, none⟩ = some (.int .i64 0) := (blk_cell BK169.out 0).trans rfl; have hcz222_1 : w220.cell? ⟨gb169, 1, none⟩ = some (.int .i64 0) := (blk_cell BK169.out 1).trans rfl; have hcz222_2 : w220.cell? ⟨gb169, 2, none⟩ = some (.int .i64 0) := (blk_cell BK169.out 2).trans rfl; have hfz222_0 := blk_frozen BK169.out 0; have hfz222_1 := blk_frozen BK169.out 1; have hfz222_2 := blk_frozen BK169.out 2))
          have n0_ : Aside0 ((((w220.setCell ⟨gb169, 0, none⟩ (.int .i64 t166)).setCell ⟨gb169, 1, none⟩ (.int .i64 t167)).setCell ⟨gb169, 2, none⟩ (.int .i64 t168)).heap[gb165]? = some (.cells #[.int .i64 t162, .int .i64 t163, .int .i64 t164] 37 (0, 0))) := ⟨by (with_reducible repeat (first | refine blk_drewN ?_ _ | refine blk_drew ?_ | refine blk_alloc ?_ _)); refine blk_far ?_ NB165_169.out _; (with_reducible repeat (first | refine blk_drewN ?_ _ | refine blk_drew ?_ | refine blk_alloc ?_ _)); refine blk_far ?_ NB165_169.out _; (with_reducible repeat (first | refine blk_drewN ?_ _ | refine blk_drew ?_ | refine blk_alloc ?_ _)); refine blk_far ?_ NB165_169.out _; (with_reducible repeat (first | refine blk_drewN ?_ _ | refine blk_drew ?_ | refine blk_alloc ?_ _)); exact BK165.out⟩
          have n1_ : Aside0 ((((w220.setCell ⟨gb169, 0, none⟩ (.int .i64 t166)).setCell ⟨gb169, 1, none⟩ (.int .i64 t167)).setCell ⟨gb169, 2, none⟩ (.int .i64 t168)).heap[gb169]? = some (.cells #[.int .i64 t166, .int .i64 t167, .int .i64 t168] 37 (0, 0))) := ⟨by (with_reducible repeat (first | refine blk_drewN ?_ _ | refine blk_drew ?_ | refine blk_alloc ?_ _)); refine blk_put (cs := #[.int .i64 t166, .int .i64 t167, .int .i64 0]) ?_ 2 _ rfl; (with_reducible repeat (first | refine blk_drewN ?_ _ | refine blk_drew ?_ | refine blk_alloc ?_ _)); refine blk_put (cs := #[.int .i64 t166, .int .i64 0, .int .i64 0]) ?_ 1 _ rfl; (with_reducible repeat (first | refine blk_drewN ?_ _ | refine blk_drew ?_ | refine blk_alloc ?_ _)); refine blk_put (cs := #[.int .i64 0, .int .i64 0, .int .i64 0]) ?_ 0 _ rfl; (with_reducible repeat (first | refine blk_drewN ?_ _ | refine blk_drew ?_ | refine blk_alloc ?_ _)); exact BK169.out⟩
          have n2_ : Aside0 (Below w.heap.size w (((w220.setCell ⟨gb169, 0, none⟩ (.int .i64 t166)).setCell ⟨gb169, 1, none⟩ (.int .i64 t167)).setCell ⟨gb169, 2, none⟩ (.int .i64 t168))) := ⟨by repeat (first | (with_reducible first | exact HB.out | apply below_alloc | apply pw_below_drewN | apply below_drew1 | refine below_set ?_ GE165.out | refine below_set ?_ GE169.out) | exact HB.out)⟩
          (try clear BK165)
          (try clear BK169)
          (try clear HB)
          generalize (((w220.setCell ⟨gb169, 0, none⟩ (.int .i64 t166)).setCell ⟨gb169, 1, none⟩ (.int .i64 t167)).setCell ⟨gb169, 2, none⟩ (.int .i64 t168)) = w223 at n0_ n1_ n2_ ⊢
          have BK165 := n0_
          have BK169 := n1_
          have HB := n2_
          clear n0_ n1_ n2_
          have n0_ := Aside0.mk (blk_drew BK165.out)
          have n1_ := Aside0.mk (blk_drew BK169.out)
          have n2_ := Aside0.mk (below_drew1 HB.out)
          clear BK165
          clear BK169
          clear HB
          have BK165 := n0_
          have BK169 := n1_
          have HB := n2_
          clear n0_ n1_ n2_
          refine start_ (n := 4) (S := fun w' => w'.cell? ⟨gb169, 0, none⟩ = some (.int .i64 t166) ∧ w'.cell? ⟨gb169, 1, none⟩ = some (.int .i64 t167) ∧ w'.cell? ⟨gb169, 2, none⟩ = some (.int .i64 t168) ∧ w'.cell? ⟨gb165, 0, none⟩ = some (.int .i64 t162) ∧ w'.cell? ⟨gb165, 1, none⟩ = some (.int .i64 t163) ∧ w'.cell? ⟨gb165, 2, none⟩ = some (.int .i64 t164)) (ds := []) #[false, false, false, false] (by kernel_rfl) rfl rfl ⟨(blk_cell BK169.out 0).trans rfl, (blk_cell BK169.out 1).trans rfl, (blk_cell BK169.out 2).trans rfl, (blk_cell BK165.out 0).trans rfl, (blk_cell BK165.out 1).trans rfl, (blk_cell BK165.out 2).trans rfl⟩ (fun hHeld => ?_)
          generalize w223.drew = w224 at BK165 BK169 HB hHeld ⊢
          refine take_ (i := 0) (N := some 14) (v := ?_) (a' := ?_) #[true, false, false, false] rfl rfl (by kernel_rfl) (fun _ _ _ h => h) (Or.inl ⟨by rfl, ?_⟩) hHeld ?_ ?_
          rotate_left
          · rintro w' ⟨s0, s1, s2, s3, s4, s5⟩
            go_simp
            with_reducible rfl
          rotate_left
          · simp only [Act.put, List.setIfInBounds_toArray, List.set_cons_zero, List.set_cons_succ, i64_w, i32_w]
            rfl
          refine take_ (i := 1) (N := some 15) (v := ?_) (a' := ?_) #[true, true, false, false] rfl rfl (by kernel_rfl) (fun _ _ _ h => h) (Or.inl ⟨by rfl, ?_⟩) hHeld ?_ ?_
          rotate_left
          · rintro w' ⟨s0, s1, s2, s3, s4, s5⟩
            go_simp
            with_reducible rfl
          rotate_left
          · simp only [Act.put, List.setIfInBounds_toArray, List.set_cons_zero, List.set_cons_succ, i64_w, i32_w]
            rfl
          refine one_ (i := 2) (N := some 16) #[true, true, true, false] rfl rfl (by kernel_rfl) (by decide) (fun K hK => ?_)
          refine goes_ Try.func29 (by kernel_rfl) rfl #[.agg #[.int .i64 t162, .int .i64 t163, .int .i64 t164]] (by rfl) rfl rfl (by (try simp only [List.map_toArray, List.map_cons, List.map_nil]); first | done | rfl | (simp only [List.length_drop, List.length_take]; rfl)) ?_
          with_reducible refine (spec_PaceHeard.calls t162 t163 t164 t170 t171 t172 _ A5.out).mono ?_
          rintro e w225 ⟨rfl, hb⟩
          refine ⟨_, rfl, ?_⟩
          have n0_ := Aside0.mk (blk_below (g := gb165) (o := .cells #[.int .i64 t162, .int .i64 t163, .int .i64 t164] 37 (0, 0)) (by (with_reducible repeat (first | refine blk_drewN ?_ _ | refine blk_drew ?_ | refine blk_alloc ?_ _)); exact BK165.out) hb)
          have n1_ := Aside0.mk (blk_below (g := gb169) (o := .cells #[.int .i64 t166, .int .i64 t167, .int .i64 t168] 37 (0, 0)) (by (with_reducible repeat (first | refine blk_drewN ?_ _ | refine blk_drew ?_ | refine blk_alloc ?_ _)); exact BK169.out) hb)
          have n2_ := Aside0.mk (below_step (by repeat (first | (with_reducible first | exact HB.out | apply below_alloc | apply pw_below_drewN | apply below_drew1 | refine below_set ?_ GE165.out | refine below_set ?_ GE169.out) | exact HB.out)) hb)
          clear BK165
          clear BK169
          clear HB
          have BK165 := n0_
          have BK169 := n1_
          have HB := n2_
          clear n0_ n1_ n2_
          (try clear hb)
          (try clear hb2)
          (try clear hk)
          (try clear hi)
          refine hK.out _ _ ⟨(blk_cell BK169.out 0).trans rfl, (blk_cell BK169.out 1).trans rfl, (blk_cell BK169.out 2).trans rfl, (blk_cell BK165.out 0).trans rfl, (blk_cell BK165.out 1).trans rfl, (blk_cell BK165.out 2).trans rfl⟩ (fun hHeld => ?_)
          clear hK K
          refine norm_ (a' := ?_) ?_ ?_
          rotate_left
          · show Act.put _ (some 16) _ = _
            simp only [Act.put, List.setIfInBounds_toArray, List.set_cons_zero, List.set_cons_succ, i64_w, i32_w]
            rfl
          refine pure_ (i := 3) (N := some 17) (v := ?_) (a' := ?_) #[true, true, true, true] rfl rfl (by kernel_rfl) (fun _ _ _ h => h) (Or.inl ⟨by rfl, ?_⟩) ?_ ?_
          rotate_left
          · intro w'
            go_simp
            with_reducible rfl
          rotate_left
          · simp only [Act.put, List.setIfInBounds_toArray, List.set_cons_zero, List.set_cons_succ, i64_w, i32_w]
            rfl
          refine done_ (by kernel_rfl) ?_
          have hcz226_0 : w225.cell? ⟨gb165, 0, none⟩ = some (.int .i64 t162) := (blk_cell BK165.out 0).trans rfl
          have hcz226_1 : w225.cell? ⟨gb165, 1, none⟩ = some (.int .i64 t163) := (blk_cell BK165.out 1).trans rfl
          have hcz226_2 : w225.cell? ⟨gb165, 2, none⟩ = some (.int .i64 t164) := (blk_cell BK165.out 2).trans rfl
          have hfz226_0 := blk_frozen BK165.out 0
          have hfz226_1 := blk_frozen BK165.out 1
          have hfz226_2 := blk_frozen BK165.out 2
          try go_wp2_with (first | ((with_reducible refine gate_callee (f := 34) rfl ?_); refine goesL_ (some 19) rfl rfl Try.func34 (by kernel_rfl) rfl #[.agg #[.int .i64 t162, .int .i64 t163, .int .i64 t164]] rfl (by (try simp only [List.map_toArray, List.map_cons, List.map_nil]); first | done | rfl | (simp only [List.length_drop, List.length_take]; rfl)) ?_; (with_reducible refine (impl_PaceOk.calls t162 t163 t164 false _ A17.out).mono ?_); rintro e w227 ⟨rfl, hb⟩; refine ⟨_, rfl, ?_⟩; have n0_ := Aside0.mk (blk_below (g := gb165) (o := .cells #[.int .i64 t162, .int .i64 t163, .int .i64 t164] 37 (0, 0)) (by (with_reducible repeat (first | refine blk_drewN ?_ _ | refine blk_drew ?_ | refine blk_alloc ?_ _)); exact BK165.out) hb); have n1_ := Aside0.mk (blk_below (g := gb169) (o := .cells #[.int .i64 t166, .int .i64 t167, .int .i64 t168] 37 (0, 0)) (by (with_reducible repeat (first | refine blk_drewN ?_ _ | refine blk_drew ?_ | refine blk_alloc ?_ _)); exact BK169.out) hb); have n2_ := Aside0.mk (below_step (by repeat (first | (with_reducible first | exact HB.out | apply below_alloc | apply pw_below_drewN | apply below_drew1 | refine below_set ?_ GE165.out | refine below_set ?_ GE169.out) | exact HB.out)) hb); clear BK165; clear BK169; clear HB; have BK165 := n0_; have BK169 := n1_; have HB := n2_; clear n0_ n1_ n2_; (try clear hb); (try clear hb2); (try clear hk); (try clear hi); have hcz228_0 : w227.cell? ⟨gb169, 0, none⟩ = some (.int .i64 t166) := (blk_cell BK169.out 0).trans rfl; have hcz228_1 : w227.cell? ⟨gb169, 1, none⟩ = some (.int .i64 t167) := (blk_cell BK169.out 1).trans rfl; have hcz228_2 : w227.cell? ⟨gb169, 2, none⟩ = some (.int .i64 t168) := (blk_cell BK169.out 2).trans rfl; have hfz228_0 := blk_frozen BK169.out 0; have hfz228_1 := blk_frozen BK169.out 1; have hfz228_2 := blk_frozen BK169.out 2) | (go_at_call 36; (with_reducible refine (laws_alive.calls k  t174 _ A215.out).mono ?_); rintro e w229 ⟨rfl, hb⟩; have n0_ := Aside0.mk (blk_below (g := gb165) (o := .cells #[.int .i64 t162, .int .i64 t163, .int .i64 t164] 37 (0, 0)) (by (with_reducible repeat (first | refine blk_drewN ?_ _ | refine blk_drew ?_ | refine blk_alloc ?_ _)); exact BK165.out) hb); have n1_ := Aside0.mk (blk_below (g := gb169) (o := .cells #[.int .i64 t166, .int .i64 t167, .int .i64 t168] 37 (0, 0)) (by (with_reducible repeat (first | refine blk_drewN ?_ _ | refine blk_drew ?_ | refine blk_alloc ?_ _)); exact BK169.out) hb); have n2_ := Aside0.mk (below_step (by repeat (first | (with_reducible first | exact HB.out | apply below_alloc | apply pw_below_drewN | apply below_drew1 | refine below_set ?_ GE165.out | refine below_set ?_ GE169.out) | exact HB.out)) hb); clear BK165; clear BK169; clear HB; have BK165 := n0_; have BK169 := n1_; have HB := n2_; clear n0_ n1_ n2_; (try clear hb); (try clear hb2); (try clear hk); (try clear hi)))
          go_ret
          exact ⟨by first | rfl | (simp [errW_none, errW_some] <;> rfl) | (simp [*, errW_none, errW_some] <;> rfl), by repeat (first | (with_reducible first | exact HB.out | apply below_alloc | apply pw_below_drewN | apply below_drew1 | refine below_set ?_ GE165.out | refine below_set ?_ GE169.out) | exact HB.out)⟩
        · rw [if_neg c214] at H
          have c214b0 : (t166 == 0 && (t167 == 0 && (t168 == 0))) = false := by simpa using c214
          (try (have c214b1 : decide (t166 = 0 && (t167 == 0 && (t168 == 0))) = false := by simpa using c214))
          (try (have c214b2 : (t166 == 0 && (t167 == 0 && (t168 == 0))) = false := by simpa using c214))
          (try (have c214b3 : ¬ (t166 = 0 && (t167 == 0 && (t168 == 0))) := by simpa using c214))
          clear c214
          obtain rfl := Option.some.inj H
          go_enter Try.func11, Try.ntmps11
          try go_wp2_with (first | ((with_reducible refine gate_callee (f := 39) rfl ?_); refine goesL_ (some 11) rfl rfl Try.func39 (by kernel_rfl) rfl #[.slice A0 l0.length c0] rfl (by (try simp only [List.map_toArray, List.map_cons, List.map_nil]); first | done | rfl | (simp only [List.length_drop, List.length_take]; rfl)) ?_; (with_reducible refine (spec_DrawPaceHeard.calls k _ _ l0 t162 t163 t164 _ ?side1 ?side2 A3.out).mono ?_); (case side1 => repeat (first | exact HR0.out | (with_reducible refine Kd.C_alloc ?_ _) | (with_reducible refine Kd.C_drewN ?_ _) | (with_reducible refine Kd.C_drew ?_))); (case side2 => exact HC0.out); rintro e w230 ⟨rfl, hb⟩; refine ⟨_, rfl, ?_⟩; have n0_ := Aside0.mk (below_step (by repeat (first | (with_reducible first | exact HB.out | apply below_alloc | apply pw_below_drewN | apply below_drew1) | exact HB.out)) hb); clear HB; have HB := n0_; clear n0_; (try clear hb); (try clear hb2); (try clear hk); (try clear hi)) | ((with_reducible refine gate_dst (N := 3) rfl ?_); (try (refine gate_guard (by rfl) ?_; dsimp only)); refine box_event ?hg (N := 3) ?hd (cs := #[.int .i64 0, .int .i64 0, .int .i64 0]) (t := 37) ?hr ?_; (case hd => rfl); (case hg => rfl); (case hr => first | (go_simp; done) | (go_simp; rfl)); intro gb165 hg w231 hbox hb; have n0_ := Aside0.mk (below_step (by repeat (first | (with_reducible first | exact HB.out | apply below_alloc | apply pw_below_drewN | apply below_drew1) | exact HB.out)) hb); have n1_ := Aside0.mk (hbox); have n2_ := Aside0.mk ((by rw [hg]; exact (below_size (by repeat (first | (with_reducible first | exact HB.out | apply below_alloc | apply pw_below_drewN | apply below_drew1) | exact HB.out))) : w.heap.size ≤ gb165)); have n3_ := Aside0.mk ((by rw [hg]; exact (below_size (by repeat (first | (with_reducible first | exact HB.out | apply below_alloc | apply pw_below_drewN | apply below_drew1) | exact HB.out))) : w.heap.size ≤ gb165)); clear HB; have HB := n0_; have BK165 := n1_; have GW165 := n2_; have GE165 := n3_; clear n0_ n1_ n2_ n3_; clear hb hbox hg; have hcz232_0 : w231.cell? ⟨gb165, 0, none⟩ = some (.int .i64 0) := (blk_cell BK165.out 0).trans rfl; have hcz232_1 : w231.cell? ⟨gb165, 1, none⟩ = some (.int .i64 0) := (blk_cell BK165.out 1).trans rfl; have hcz232_2 : w231.cell? ⟨gb165, 2, none⟩ = some (.int .i64 0) := (blk_cell BK165.out 2).trans rfl; have hfz232_0 := blk_frozen BK165.out 0; have hfz232_1 := blk_frozen BK165.out 1; have hfz232_2 := blk_frozen BK165.out 2) | ((with_reducible refine gate_callee (f := 30) rfl ?_); refine goesL_ (some 13) rfl rfl Try.func30 (by kernel_rfl) rfl #[.agg #[.int .i64 t162, .int .i64 t163, .int .i64 t164]] rfl (by (try simp only [List.map_toArray, List.map_cons, List.map_nil]); first | done | rfl | (simp only [List.length_drop, List.length_take]; rfl)) ?_; (with_reducible refine (impl_PaceHeard.calls t162 t163 t164 t166 t167 t168 _ A4.out).mono ?_); rintro e w233 ⟨rfl, hb⟩; refine ⟨_, rfl, ?_⟩; have n0_ := Aside0.mk (blk_below (g := gb165) (o := .cells #[.int .i64 t162, .int .i64 t163, .int .i64 t164] 37 (0, 0)) (by (with_reducible repeat (first | refine blk_drewN ?_ _ | refine blk_drew ?_ | refine blk_alloc ?_ _)); refine blk_put (cs := #[.int .i64 t162, .int .i64 t163, .int .i64 0]) ?_ 2 _ rfl; (with_reducible repeat (first | refine blk_drewN ?_ _ | refine blk_drew ?_ | refine blk_alloc ?_ _)); refine blk_put (cs := #[.int .i64 t162, .int .i64 0, .int .i64 0]) ?_ 1 _ rfl; (with_reducible repeat (first | refine blk_drewN ?_ _ | refine blk_drew ?_ | refine blk_alloc ?_ _)); refine blk_put (cs := #[.int .i64 0, .int .i64 0, .int .i64 0]) ?_ 0 _ rfl; (with_reducible repeat (first | refine blk_drewN ?_ _ | refine blk_drew ?_ | refine blk_alloc ?_ _)); exact BK165.out) hb); have n1_ := Aside0.mk (below_step (by repeat (first | (with_reducible first | exact HB.out | apply below_alloc | apply pw_below_drewN | apply below_drew1 | refine below_set ?_ GE165.out) | exact HB.out)) hb); clear BK165; clear HB; have BK165 := n0_; have HB := n1_; clear n0_ n1_; (try clear hb); (try clear hb2); (try clear hk); (try clear hi)) | ((with_reducible refine gate_dst (N := 4) rfl ?_); (try (refine gate_guard (by rfl) ?_; dsimp only)); refine box_event ?hg (N := 4) ?hd (cs := #[.int .i64 0, .int .i64 0, .int .i64 0]) (t := 37) ?hr ?_; (case hd => rfl); (case hg => rfl); (case hr => first | (go_simp; done) | (go_simp; rfl)); intro gb169 hg w234 hbox hb; have n0_ := Aside0.mk (blk_below (g := gb165) (o := .cells #[.int .i64 t162, .int .i64 t163, .int .i64 t164] 37 (0, 0)) (by (with_reducible repeat (first | refine blk_drewN ?_ _ | refine blk_drew ?_ | refine blk_alloc ?_ _)); exact BK165.out) hb); have n1_ := Aside0.mk (below_step (by repeat (first | (with_reducible first | exact HB.out | apply below_alloc | apply pw_below_drewN | apply below_drew1 | refine below_set ?_ GE165.out) | exact HB.out)) hb); have n2_ := Aside0.mk (hbox); have n3_ := Aside0.mk ((by rw [hg]; exact (below_size (by repeat (first | (with_reducible first | exact HB.out | apply below_alloc | apply pw_below_drewN | apply below_drew1 | refine below_set ?_ GE165.out) | exact HB.out))) : w.heap.size ≤ gb169)); have n4_ := Aside0.mk ((by rw [hg]; exact (below_size (by repeat (first | (with_reducible first | exact HB.out | apply below_alloc | apply pw_below_drewN | apply below_drew1 | refine below_set ?_ GE165.out) | exact HB.out))) : w.heap.size ≤ gb169)); have n5_ := Aside0.mk ((by rw [hg]; exact Nat.ne_of_lt (blk_lt (g := gb165) (o := .cells #[.int .i64 t162, .int .i64 t163, .int .i64 t164] 37 (0, 0)) (by (with_reducible repeat (first | refine blk_drewN ?_ _ | refine blk_drew ?_ | refine blk_alloc ?_ _)); exact BK165.out)) : gb165 ≠ gb169)); have n6_ := Aside0.mk ((by rw [hg]; exact Nat.ne_of_gt (blk_lt (g := gb165) (o := .cells #[.int .i64 t162, .int .i64 t163, .int .i64 t164] 37 (0, 0)) (by (with_reducible repeat (first | refine blk_drewN ?_ _ | refine blk_drew ?_ | refine blk_alloc ?_ _)); exact BK165.out)) : gb169 ≠ gb165)); clear BK165; clear HB; have BK165 := n0_; have HB := n1_; have BK169 := n2_; have GW169 := n3_; have GE169 := n4_; have NB165_169 := n5_; have NB169_165 := n6_; clear n0_ n1_ n2_ n3_ n4_ n5_ n6_; clear hb hbox hg; have hnb235 := NB169_165.out; have hnc235 := NB165_169.out; have hcz236_0 : w234.cell? ⟨gb169, 0, none⟩ = some (.int .i64 0) := (blk_cell BK169.out 0).trans rfl; have hcz236_1 : w234.cell? ⟨gb169, 1, none⟩ = some (.int .i64 0) := (blk_cell BK169.out 1).trans rfl; have hcz236_2 : w234.cell? ⟨gb169, 2, none⟩ = some (.int .i64 0) := (blk_cell BK169.out 2).trans rfl; have hfz236_0 := blk_frozen BK169.out 0; have hfz236_1 := blk_frozen BK169.out 1; have hfz236_2 := blk_frozen BK169.out 2))
          have n0_ : Aside0 ((((w234.setCell ⟨gb169, 0, none⟩ (.int .i64 t166)).setCell ⟨gb169, 1, none⟩ (.int .i64 t167)).setCell ⟨gb169, 2, none⟩ (.int .i64 t168)).heap[gb165]? = some (.cells #[.int .i64 t162, .int .i64 t163, .int .i64 t164] 37 (0, 0))) := ⟨by (with_reducible repeat (first | refine blk_drewN ?_ _ | refine blk_drew ?_ | refine blk_alloc ?_ _)); refine blk_far ?_ NB165_169.out _; (with_reducible repeat (first | refine blk_drewN ?_ _ | refine blk_drew ?_ | refine blk_alloc ?_ _)); refine blk_far ?_ NB165_169.out _; (with_reducible repeat (first | refine blk_drewN ?_ _ | refine blk_drew ?_ | refine blk_alloc ?_ _)); refine blk_far ?_ NB165_169.out _; (with_reducible repeat (first | refine blk_drewN ?_ _ | refine blk_drew ?_ | refine blk_alloc ?_ _)); exact BK165.out⟩
          have n1_ : Aside0 ((((w234.setCell ⟨gb169, 0, none⟩ (.int .i64 t166)).setCell ⟨gb169, 1, none⟩ (.int .i64 t167)).setCell ⟨gb169, 2, none⟩ (.int .i64 t168)).heap[gb169]? = some (.cells #[.int .i64 t166, .int .i64 t167, .int .i64 t168] 37 (0, 0))) := ⟨by (with_reducible repeat (first | refine blk_drewN ?_ _ | refine blk_drew ?_ | refine blk_alloc ?_ _)); refine blk_put (cs := #[.int .i64 t166, .int .i64 t167, .int .i64 0]) ?_ 2 _ rfl; (with_reducible repeat (first | refine blk_drewN ?_ _ | refine blk_drew ?_ | refine blk_alloc ?_ _)); refine blk_put (cs := #[.int .i64 t166, .int .i64 0, .int .i64 0]) ?_ 1 _ rfl; (with_reducible repeat (first | refine blk_drewN ?_ _ | refine blk_drew ?_ | refine blk_alloc ?_ _)); refine blk_put (cs := #[.int .i64 0, .int .i64 0, .int .i64 0]) ?_ 0 _ rfl; (with_reducible repeat (first | refine blk_drewN ?_ _ | refine blk_drew ?_ | refine blk_alloc ?_ _)); exact BK169.out⟩
          have n2_ : Aside0 (Below w.heap.size w (((w234.setCell ⟨gb169, 0, none⟩ (.int .i64 t166)).setCell ⟨gb169, 1, none⟩ (.int .i64 t167)).setCell ⟨gb169, 2, none⟩ (.int .i64 t168))) := ⟨by repeat (first | (with_reducible first | exact HB.out | apply below_alloc | apply pw_below_drewN | apply below_drew1 | refine below_set ?_ GE165.out | refine below_set ?_ GE169.out) | exact HB.out)⟩
          (try clear BK165)
          (try clear BK169)
          (try clear HB)
          generalize (((w234.setCell ⟨gb169, 0, none⟩ (.int .i64 t166)).setCell ⟨gb169, 1, none⟩ (.int .i64 t167)).setCell ⟨gb169, 2, none⟩ (.int .i64 t168)) = w237 at n0_ n1_ n2_ ⊢
          have BK165 := n0_
          have BK169 := n1_
          have HB := n2_
          clear n0_ n1_ n2_
          have n0_ := Aside0.mk (blk_drew BK165.out)
          have n1_ := Aside0.mk (blk_drew BK169.out)
          have n2_ := Aside0.mk (below_drew1 HB.out)
          clear BK165
          clear BK169
          clear HB
          have BK165 := n0_
          have BK169 := n1_
          have HB := n2_
          clear n0_ n1_ n2_
          refine start_ (n := 4) (S := fun w' => w'.cell? ⟨gb169, 0, none⟩ = some (.int .i64 t166) ∧ w'.cell? ⟨gb169, 1, none⟩ = some (.int .i64 t167) ∧ w'.cell? ⟨gb169, 2, none⟩ = some (.int .i64 t168) ∧ w'.cell? ⟨gb165, 0, none⟩ = some (.int .i64 t162) ∧ w'.cell? ⟨gb165, 1, none⟩ = some (.int .i64 t163) ∧ w'.cell? ⟨gb165, 2, none⟩ = some (.int .i64 t164)) (ds := []) #[false, false, false, false] (by kernel_rfl) rfl rfl ⟨(blk_cell BK169.out 0).trans rfl, (blk_cell BK169.out 1).trans rfl, (blk_cell BK169.out 2).trans rfl, (blk_cell BK165.out 0).trans rfl, (blk_cell BK165.out 1).trans rfl, (blk_cell BK165.out 2).trans rfl⟩ (fun hHeld => ?_)
          generalize w237.drew = w238 at BK165 BK169 HB hHeld ⊢
          refine take_ (i := 0) (N := some 14) (v := ?_) (a' := ?_) #[true, false, false, false] rfl rfl (by kernel_rfl) (fun _ _ _ h => h) (Or.inl ⟨by rfl, ?_⟩) hHeld ?_ ?_
          rotate_left
          · rintro w' ⟨s0, s1, s2, s3, s4, s5⟩
            go_simp
            with_reducible rfl
          rotate_left
          · simp only [Act.put, List.setIfInBounds_toArray, List.set_cons_zero, List.set_cons_succ, i64_w, i32_w]
            rfl
          refine take_ (i := 1) (N := some 15) (v := ?_) (a' := ?_) #[true, true, false, false] rfl rfl (by kernel_rfl) (fun _ _ _ h => h) (Or.inl ⟨by rfl, ?_⟩) hHeld ?_ ?_
          rotate_left
          · rintro w' ⟨s0, s1, s2, s3, s4, s5⟩
            go_simp
            with_reducible rfl
          rotate_left
          · simp only [Act.put, List.setIfInBounds_toArray, List.set_cons_zero, List.set_cons_succ, i64_w, i32_w]
            rfl
          refine one_ (i := 2) (N := some 16) #[true, true, true, false] rfl rfl (by kernel_rfl) (by decide) (fun K hK => ?_)
          refine goes_ Try.func29 (by kernel_rfl) rfl #[.agg #[.int .i64 t162, .int .i64 t163, .int .i64 t164]] (by rfl) rfl rfl (by (try simp only [List.map_toArray, List.map_cons, List.map_nil]); first | done | rfl | (simp only [List.length_drop, List.length_take]; rfl)) ?_
          with_reducible refine (spec_PaceHeard.calls t162 t163 t164 t170 t171 t172 _ A5.out).mono ?_
          rintro e w239 ⟨rfl, hb⟩
          refine ⟨_, rfl, ?_⟩
          have n0_ := Aside0.mk (blk_below (g := gb165) (o := .cells #[.int .i64 t162, .int .i64 t163, .int .i64 t164] 37 (0, 0)) (by (with_reducible repeat (first | refine blk_drewN ?_ _ | refine blk_drew ?_ | refine blk_alloc ?_ _)); exact BK165.out) hb)
          have n1_ := Aside0.mk (blk_below (g := gb169) (o := .cells #[.int .i64 t166, .int .i64 t167, .int .i64 t168] 37 (0, 0)) (by (with_reducible repeat (first | refine blk_drewN ?_ _ | refine blk_drew ?_ | refine blk_alloc ?_ _)); exact BK169.out) hb)
          have n2_ := Aside0.mk (below_step (by repeat (first | (with_reducible first | exact HB.out | apply below_alloc | apply pw_below_drewN | apply below_drew1 | refine below_set ?_ GE165.out | refine below_set ?_ GE169.out) | exact HB.out)) hb)
          clear BK165
          clear BK169
          clear HB
          have BK165 := n0_
          have BK169 := n1_
          have HB := n2_
          clear n0_ n1_ n2_
          (try clear hb)
          (try clear hb2)
          (try clear hk)
          (try clear hi)
          refine hK.out _ _ ⟨(blk_cell BK169.out 0).trans rfl, (blk_cell BK169.out 1).trans rfl, (blk_cell BK169.out 2).trans rfl, (blk_cell BK165.out 0).trans rfl, (blk_cell BK165.out 1).trans rfl, (blk_cell BK165.out 2).trans rfl⟩ (fun hHeld => ?_)
          clear hK K
          refine norm_ (a' := ?_) ?_ ?_
          rotate_left
          · show Act.put _ (some 16) _ = _
            simp only [Act.put, List.setIfInBounds_toArray, List.set_cons_zero, List.set_cons_succ, i64_w, i32_w]
            rfl
          refine pure_ (i := 3) (N := some 17) (v := ?_) (a' := ?_) #[true, true, true, true] rfl rfl (by kernel_rfl) (fun _ _ _ h => h) (Or.inl ⟨by rfl, ?_⟩) ?_ ?_
          rotate_left
          · intro w'
            go_simp
            with_reducible rfl
          rotate_left
          · simp only [Act.put, List.setIfInBounds_toArray, List.set_cons_zero, List.set_cons_succ, i64_w, i32_w]
            rfl
          refine done_ (by kernel_rfl) ?_
          have hcz240_0 : w239.cell? ⟨gb165, 0, none⟩ = some (.int .i64 t162) := (blk_cell BK165.out 0).trans rfl
          have hcz240_1 : w239.cell? ⟨gb165, 1, none⟩ = some (.int .i64 t163) := (blk_cell BK165.out 1).trans rfl
          have hcz240_2 : w239.cell? ⟨gb165, 2, none⟩ = some (.int .i64 t164) := (blk_cell BK165.out 2).trans rfl
          have hfz240_0 := blk_frozen BK165.out 0
          have hfz240_1 := blk_frozen BK165.out 1
          have hfz240_2 := blk_frozen BK165.out 2
          try go_wp2_with (first | ((with_reducible refine gate_callee (f := 34) rfl ?_); refine goesL_ (some 19) rfl rfl Try.func34 (by kernel_rfl) rfl #[.agg #[.int .i64 t162, .int .i64 t163, .int .i64 t164]] rfl (by (try simp only [List.map_toArray, List.map_cons, List.map_nil]); first | done | rfl | (simp only [List.length_drop, List.length_take]; rfl)) ?_; (with_reducible refine (impl_PaceOk.calls t162 t163 t164 false _ A17.out).mono ?_); rintro e w241 ⟨rfl, hb⟩; refine ⟨_, rfl, ?_⟩; have n0_ := Aside0.mk (blk_below (g := gb165) (o := .cells #[.int .i64 t162, .int .i64 t163, .int .i64 t164] 37 (0, 0)) (by (with_reducible repeat (first | refine blk_drewN ?_ _ | refine blk_drew ?_ | refine blk_alloc ?_ _)); exact BK165.out) hb); have n1_ := Aside0.mk (blk_below (g := gb169) (o := .cells #[.int .i64 t166, .int .i64 t167, .int .i64 t168] 37 (0, 0)) (by (with_reducible repeat (first | refine blk_drewN ?_ _ | refine blk_drew ?_ | refine blk_alloc ?_ _)); exact BK169.out) hb); have n2_ := Aside0.mk (below_step (by repeat (first | (with_reducible first | exact HB.out | apply below_alloc | apply pw_below_drewN | apply below_drew1 | refine below_set ?_ GE165.out | refine below_set ?_ GE169.out) | exact HB.out)) hb); clear BK165; clear BK169; clear HB; have BK165 := n0_; have BK169 := n1_; have HB := n2_; clear n0_ n1_ n2_; (try clear hb); (try clear hb2); (try clear hk); (try clear hi); have hcz242_0 : w241.cell? ⟨gb169, 0, none⟩ = some (.int .i64 t166) := (blk_cell BK169.out 0).trans rfl; have hcz242_1 : w241.cell? ⟨gb169, 1, none⟩ = some (.int .i64 t167) := (blk_cell BK169.out 1).trans rfl; have hcz242_2 : w241.cell? ⟨gb169, 2, none⟩ = some (.int .i64 t168) := (blk_cell BK169.out 2).trans rfl; have hfz242_0 := blk_frozen BK169.out 0; have hfz242_1 := blk_frozen BK169.out 1; have hfz242_2 := blk_frozen BK169.out 2))
          go_ret
          exact ⟨by first | rfl | (simp [errW_none, errW_some] <;> rfl) | (simp [*, errW_none, errW_some] <;> rfl), by repeat (first | (with_reducible first | exact HB.out | apply below_alloc | apply pw_below_drewN | apply below_drew1 | refine below_set ?_ GE165.out | refine below_set ?_ GE169.out) | exact HB.out)⟩

/-- THE ONE PURE STATEMENT of laws_FnPaceHeard: yours. -/
def laws_FnPaceHeard.Pure : Prop := ∀ (l0 : List Int), l0.length ≤ maxLen → l0.length * 1 ≤ 140737488351232 → (∀ x ∈ l0, (Lit.int .u8 x).wf = true) → ∃ k, laws_FnPaceHeard.f k l0 = some true
theorem laws_FnPaceHeard.walk (P : laws_FnPaceHeard.Pure) (a0 : Option Addr) (len0 cap0 : Nat) (z0 : List Int) (w : World) (w0 : (a0 = none ∧ len0 = 0 ∧ cap0 = 0 ∧ z0 = []) ∨ ∃ x, a0 = some x ∧ len0 ≤ cap0 ∧ cap0 ≤ maxLen ∧ z0.length = cap0 ∧ (∀ i, i < z0.length → w.cell? (x.add i) = some (.int .u8 (z0.getD i 0))) ∧ ∀ n ∈ z0, (Lit.int .u8 n).wf = true) (y0 : len0 * 1 ≤ 140737488351232) :
    Calls Try.prog 11 #[.slice a0 len0 cap0] w fun e w' => e = .returned (.bool true) ∧ Below w.heap.size w w' := by
  obtain ⟨l0, rfl, hr0, hm0, hw0, hc0⟩ := ReadsInt.ofRowC w0
  obtain ⟨k, h⟩ := P l0 hm0 y0 hw0
  refine (laws_FnPaceHeard.calls k _ _ l0 true w (Kd.C_of_reads (d := (0 : Int)) (h1 := fun _ => rfl) hr0) hc0 h).mono ?_
  rintro e w' ⟨rfl, hd⟩
  exact ⟨rfl, hd⟩

end Go.Proofs.Ytkhjpkholpclhaa.PFnPaceHeard
