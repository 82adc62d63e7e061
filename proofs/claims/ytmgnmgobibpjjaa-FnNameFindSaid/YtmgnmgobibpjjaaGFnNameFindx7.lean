/- What the Go functions that FnNameFind reaches come to, walked step by step; there is no condition beyond those each statement names. -/
import Derived.Test.YtmgnmgobibpjjaaGFnNameFindx0
import Derived.Test.YtmgnmgobibpjjaaGFnNameFindx1
import Derived.Test.YtmgnmgobibpjjaaGFnNameFindx3
import Derived.Test.YtmgnmgobibpjjaaGFnNameFindx5
import Derived.Test.YtmgnmgobibpjjaaGFnNameFindx6
namespace Go.Proofs.Ytmgnmgobibpjjaa.GFnNameFind
open Go.RowKit Go.Proofs.YtmgnmgobibpjjaaU.PrintWords Go.Proofs.YtmgnmgobibpjjaaU.PrintLast Go.Proofs.YtmgnmgobibpjjaaU.PrintMore
attribute [local go_sem] max2_int min2_int max_two min_two max_three min_three max_four min_four   -- for this text's walks alone
set_option linter.unusedVariables false
set_option linter.unusedSimpArgs false

/-! ### laws_FnNameFind: function 11 -/
mutual
def laws_FnNameFind.j0 : Nat → List (S26) → ByteArray → Int → Bool → Bool → Option (Bool)
  | 0, _, _, _, _, _ => none
  | k + 1, x3, x4, x5, x6, x40 => if x40 = true then (some false) else ((impl_NameAsk.f k x3 x4).bind fun bt263 => (if bt263.2.2.2.2.2 = true then (laws_FnNameFind.j1 k x3 x5 x6 (bt263.2.1 == 0) bt263.1 bt263.2.1 bt263.2.2.1 bt263.2.2.2.1 bt263.2.2.2.2.1) else (laws_FnNameFind.j1 k x3 x5 x6 true bt263.1 bt263.2.1 bt263.2.2.1 bt263.2.2.2.1 bt263.2.2.2.2.1)))
def laws_FnNameFind.j1 : Nat → List (S26) → Int → Bool → Bool → ByteArray → Int → Int → ByteArray → Int → Option (Bool)
  | 0, _, _, _, _, _, _, _, _, _ => none
  | k + 1, x3, x5, x6, x53, x270000, x270001, x270002, x270003, x270004 => if x53 = true then (if x6 = true then (some false) else ((laws_alive.f k).bind fun t270 => (some t270))) else (if x270001 = 1 then (if x6 = true then (if x5 = x270002 then ((laws_alive.f k).bind fun t271 => (some t271)) else (some false)) else (some false)) else ((impl_NameFind.f k x3 x270003).bind fun bt272 => (if x6 = true then (if bt272.2 = true then (if bt272.1 = x5 then ((laws_alive.f k).bind fun t274 => (some t274)) else (some false)) else (some false)) else ((laws_alive.f k).bind fun t275 => (some t275)))))
end
def laws_FnNameFind.f (k : Nat) (l0 : List Int) : Option (Bool) := if (l0.length : Int) > 1048576 then (some true) else ((spec_DrawNameFind.f k l0).bind fun bt255 => ((impl_NameFind.f k bt255.1 bt255.2).bind fun bt259 => ((spec_NameFind.f k bt255.1 bt255.2).bind fun bt261 => (if (bt259.2 != bt261.2) = true then (laws_FnNameFind.j0 k bt255.1 bt255.2 bt259.1 bt259.2 true) else (laws_FnNameFind.j0 k bt255.1 bt255.2 bt259.1 bt259.2 (bt259.1 != bt261.1))))))
theorem laws_FnNameFind.mono_l : ∀ k, (∀ y0 y1 y2 y3 y4, LeO (laws_FnNameFind.j0 k y0 y1 y2 y3 y4) (laws_FnNameFind.j0 (k + 1) y0 y1 y2 y3 y4)) ∧ (∀ y0 y1 y2 y3 y4 y5 y6 y7 y8, LeO (laws_FnNameFind.j1 k y0 y1 y2 y3 y4 y5 y6 y7 y8) (laws_FnNameFind.j1 (k + 1) y0 y1 y2 y3 y4 y5 y6 y7 y8))
  | 0 => ⟨fun _ _ _ _ _ r h => by simp [laws_FnNameFind.j0] at h, fun _ _ _ _ _ _ _ _ _ r h => by simp [laws_FnNameFind.j1] at h⟩
  | k + 1 => by
    obtain ⟨ih0, ih1⟩ := laws_FnNameFind.mono_l k
    refine ⟨?_, ?_⟩
    · intro y0 y1 y2 y3 y4
      unfold laws_FnNameFind.j0
      repeat' first
      | (with_reducible exact ih0 _ _ _ _ _)
      | (with_reducible exact ih1 _ _ _ _ _ _ _ _ _)
      | (with_reducible exact impl_NameAsk.mono _ _ _)
      | (with_reducible exact impl_NameFind.mono _ _ _)
      | (with_reducible exact laws_alive.mono _)
      | (with_reducible exact spec_DrawNameFind.mono _ _)
      | (with_reducible exact spec_NameFind.mono _ _ _)
      | (with_reducible exact LeO.refl _)
      | (with_reducible exact LeO.none _)
      | (with_reducible refine LeO.ite ?_ ?_)
      | (with_reducible refine LeO.bind ?_ (fun _ => ?_))
      | exact ih0 _ _ _ _ _
      | exact ih1 _ _ _ _ _ _ _ _ _
      | exact impl_NameAsk.mono _ _ _
      | exact impl_NameFind.mono _ _ _
      | exact laws_alive.mono _
      | exact spec_DrawNameFind.mono _ _
      | exact spec_NameFind.mono _ _ _
      | exact LeO.none _
      | refine LeO.ite ?_ ?_
      | refine LeO.bind ?_ (fun _ => ?_)
    · intro y0 y1 y2 y3 y4 y5 y6 y7 y8
      unfold laws_FnNameFind.j1
      repeat' first
      | (with_reducible exact ih0 _ _ _ _ _)
      | (with_reducible exact ih1 _ _ _ _ _ _ _ _ _)
      | (with_reducible exact impl_NameAsk.mono _ _ _)
      | (with_reducible exact impl_NameFind.mono _ _ _)
      | (with_reducible exact laws_alive.mono _)
      | (with_reducible exact spec_DrawNameFind.mono _ _)
      | (with_reducible exact spec_NameFind.mono _ _ _)
      | (with_reducible exact LeO.refl _)
      | (with_reducible exact LeO.none _)
      | (with_reducible refine LeO.ite ?_ ?_)
      | (with_reducible refine LeO.bind ?_ (fun _ => ?_))
      | exact ih0 _ _ _ _ _
      | exact ih1 _ _ _ _ _ _ _ _ _
      | exact impl_NameAsk.mono _ _ _
      | exact impl_NameFind.mono _ _ _
      | exact laws_alive.mono _
      | exact spec_DrawNameFind.mono _ _
      | exact spec_NameFind.mono _ _ _
      | exact LeO.none _
      | refine LeO.ite ?_ ?_
      | refine LeO.bind ?_ (fun _ => ?_)
theorem laws_FnNameFind.mono : ∀ a0 k, LeO (laws_FnNameFind.f k a0) (laws_FnNameFind.f (k + 1) a0) := by
  intro a0 k
  obtain ⟨ih0, ih1⟩ := laws_FnNameFind.mono_l k
  unfold laws_FnNameFind.f
  repeat' first
      | (with_reducible exact ih0 _ _ _ _ _)
      | (with_reducible exact ih1 _ _ _ _ _ _ _ _ _)
      | (with_reducible exact impl_NameAsk.mono _ _ _)
      | (with_reducible exact impl_NameFind.mono _ _ _)
      | (with_reducible exact laws_alive.mono _)
      | (with_reducible exact spec_DrawNameFind.mono _ _)
      | (with_reducible exact spec_NameFind.mono _ _ _)
      | (with_reducible exact LeO.refl _)
      | (with_reducible exact LeO.none _)
      | (with_reducible refine LeO.ite ?_ ?_)
      | (with_reducible refine LeO.bind ?_ (fun _ => ?_))
      | exact ih0 _ _ _ _ _
      | exact ih1 _ _ _ _ _ _ _ _ _
      | exact impl_NameAsk.mono _ _ _
      | exact impl_NameFind.mono _ _ _
      | exact laws_alive.mono _
      | exact spec_DrawNameFind.mono _ _
      | exact spec_NameFind.mono _ _ _
      | exact LeO.none _
      | refine LeO.ite ?_ ?_
      | refine LeO.bind ?_ (fun _ => ?_)
set_option maxHeartbeats 8000000 in
set_option maxRecDepth 100000 in
theorem laws_FnNameFind.calls (k : Nat) (A0 : Option Addr) (c0 : Nat) (l0 : List Int) (r : Bool) (w : World) (hr0 : Kd.C (Kd.int .u8) w A0 l0.length l0) (hc0 : l0.length ≤ c0) (h : laws_FnNameFind.f k l0 = some r) :
    Calls Try.prog 11 #[.slice A0 l0.length c0] w fun e w' => e = .returned (.bool r) ∧ Below w.heap.size w w' := by
  have hu26 := Try.underlying26
  have HR0 := Aside0.mk hr0
  have HC0 := Aside0.mk hc0
  clear hr0 hc0
  have HB := Aside0.mk (Below.refl w.heap.size w)
  have H : (if (l0.length : Int) > 1048576 then (some true) else ((spec_DrawNameFind.f k l0).bind fun bt255 => ((impl_NameFind.f k bt255.1 bt255.2).bind fun bt259 => ((spec_NameFind.f k bt255.1 bt255.2).bind fun bt261 => (if (bt259.2 != bt261.2) = true then (laws_FnNameFind.j0 k bt255.1 bt255.2 bt259.1 bt259.2 true) else (laws_FnNameFind.j0 k bt255.1 bt255.2 bt259.1 bt259.2 (bt259.1 != bt261.1))))))) = some r := h
  clear h
  by_cases c2 : (l0.length : Int) > 1048576
  · rw [if_pos c2] at H
    have c2b0 : decide (1048576 < (l0.length : Int)) = true := decide_eq_true c2
    have c2b1 : decide (1048576 < l0.length) = true := decide_eq_true (by omega)
    clear c2
    obtain rfl := Option.some.inj H
    go_enter Try.func11, Try.ntmps11
    go_wp2
    go_ret
    exact ⟨z_10, z_5⟩
  · rw [if_neg c2] at H
    have c2b0 : decide (1048576 < (l0.length : Int)) = false := decide_eq_false c2
    have c2b1 : decide (1048576 < l0.length) = false := decide_eq_false (by omega)
    clear c2
    replace H := Option.bind_eq_some_iff.mp H
    obtain ⟨⟨t255, t256⟩, A30, H⟩ := H
    replace H : ((impl_NameFind.f k t255 t256).bind fun bt259 => ((spec_NameFind.f k t255 t256).bind fun bt261 => (if (bt259.2 != bt261.2) = true then (laws_FnNameFind.j0 k t255 t256 bt259.1 bt259.2 true) else (laws_FnNameFind.j0 k t255 t256 bt259.1 bt259.2 (bt259.1 != bt261.1))))) = some r := H
    have A3 := Aside0.mk A30
    clear A30
    replace H := Option.bind_eq_some_iff.mp H
    obtain ⟨⟨t259, t260⟩, A40, H⟩ := H
    replace H : ((spec_NameFind.f k t255 t256).bind fun bt261 => (if (t260 != bt261.2) = true then (laws_FnNameFind.j0 k t255 t256 t259 t260 true) else (laws_FnNameFind.j0 k t255 t256 t259 t260 (t259 != bt261.1)))) = some r := H
    have A4 := Aside0.mk A40
    clear A40
    replace H := Option.bind_eq_some_iff.mp H
    obtain ⟨⟨t261, t262⟩, A50, H⟩ := H
    replace H : (if (t260 != t262) = true then (laws_FnNameFind.j0 k t255 t256 t259 t260 true) else (laws_FnNameFind.j0 k t255 t256 t259 t260 (t259 != t261))) = some r := H
    have A5 := Aside0.mk A50
    clear A50
    have HC6 := Aside0.mk H
    clear H
    go_enter Try.func11, Try.ntmps11
    go_upto_region 6 with (first | ((with_reducible refine gate_callee (f := 41) rfl ?_); refine goesL_ (some 18) rfl rfl Try.func41 (z_0) rfl #[.slice A0 l0.length c0] rfl (z_11) ?_; (with_reducible refine (spec_DrawNameFind.calls k _ _ l0 t255 t256 _ ?side1 ?side2 A3.out).mono ?_); (case side1 => repeat (first | exact HR0.out | (with_reducible refine Kd.C_alloc ?_ _) | (with_reducible refine Kd.C_drewN ?_ _) | (with_reducible refine Kd.C_drew ?_))); (case side2 => exact HC0.out); rintro e w7 ⟨v257, rfl, ho0, hb⟩; refine ⟨_, rfl, ?_⟩; have n0_ := Aside0.mk (Kd.R_lower ho0 (below_size (z_5))); have n1_ := Aside0.mk (below_step (z_5) hb); clear HB; have HO258 := n0_; have HB := n1_; clear n0_ n1_; (try clear hb); (try clear hb2); (try clear hk); (try clear hi); (try clear ho0); obtain ⟨Ao8, co8, eo8⟩ := Kd.R_slice HO258.out; subst eo8) | ((with_reducible refine gate_callee (f := 40) rfl ?_); refine goesL_ (some 24) rfl rfl Try.func40 (z_0) rfl #[.slice Ao8 t255.length co8, .string t256] rfl (z_11) ?_; (with_reducible refine (impl_NameFind.calls k _ _ t255 t256 t259 t260 _ ?side1 ?side2 A4.out).mono ?_); (case side1 => exact z_51); (case side2 => exact (Kd.R_reads' HO258.out).2.1); rintro e w9 ⟨rfl, hb⟩; refine ⟨_, rfl, ?_⟩; have n0_ := Aside0.mk (Kd.R_below (z_52) hb); have n1_ := Aside0.mk (below_step (z_5) hb); clear HO258; clear HB; have HO258 := n0_; have HB := n1_; clear n0_ n1_; (try clear hb); (try clear hb2); (try clear hk); (try clear hi)) | ((with_reducible refine gate_callee (f := 39) rfl ?_); refine goesL_ (some 30) rfl rfl Try.func39 (z_0) rfl #[.slice Ao8 t255.length co8, .string t256] rfl (z_11) ?_; (with_reducible refine (spec_NameFind.calls k _ _ t255 t256 t261 t262 _ ?side1 ?side2 A5.out).mono ?_); (case side1 => exact z_51); (case side2 => exact (Kd.R_reads' HO258.out).2.1); rintro e w10 ⟨rfl, hb⟩; refine ⟨_, rfl, ?_⟩; have n0_ := Aside0.mk (Kd.R_below (z_52) hb); have n1_ := Aside0.mk (below_step (z_5) hb); clear HO258; clear HB; have HO258 := n0_; have HB := n1_; clear n0_ n1_; (try clear hb); (try clear hb2); (try clear hk); (try clear hi)))
    (try simp only [Act.put, List.setIfInBounds_toArray, List.set_cons_zero, List.set_cons_succ])
    go_cut [40] (fun v40 wc => ∃ (kq : Nat) (x40_5 : Bool), v40 = .bool x40_5 ∧ Aside0 (laws_FnNameFind.j0 kq t255 t256 t259 t260 x40_5 = some r) ∧ Aside0 (kq ≤ k) ∧ Aside0 (Kd.R k26 26 wc w.heap.size (fun _ => True) (.slice Ao8 t255.length co8) t255) ∧ Aside0 (Below w.heap.size w wc))
    case first =>
      have H := HC6.out
      clear HC6
      by_cases c11 : (t260 != t262) = true
      · rw [if_pos c11] at H
        have c11b0 : (t260 != t262) = true := c11
        (try (have c11b1 : decide (t260 = t262) = false := by simpa using c11))
        (try (have c11b2 : (t260 == t262) = false := by simpa using c11))
        (try (have c11b3 : ¬ (t260 = t262) := by simpa using c11))
        clear c11
        (first | rw [c11b0] | (simp only [i64_w, i32_w]; rw [c11b0]) | skip)
        have H' := Aside0.mk H
        clear H
        go_wp2
        go_meet
        case rel => exact ⟨_, (true), (z_1), H', ⟨z_18⟩, ⟨z_52⟩, ⟨z_5⟩⟩
      · rw [if_neg c11] at H
        have c11b0 : (t260 != t262) = false := by simpa using c11
        (try (have c11b1 : decide (t260 = t262) = true := by simpa using c11))
        (try (have c11b2 : (t260 == t262) = true := by simpa using c11))
        clear c11
        (first | rw [c11b0] | (simp only [i64_w, i32_w]; rw [c11b0]) | skip)
        have H' := Aside0.mk H
        clear H
        go_wp2
        go_meet
        case rel => exact ⟨_, ((t259 != t261)), (z_1), H', ⟨z_18⟩, ⟨z_52⟩, ⟨z_5⟩⟩
    case rest =>
      clear HC6
      try clear c1
      try clear c2
      try clear c2b0
      try clear c2b1
      try clear p2
      try clear c3
      try clear c4
      try clear c11
      try clear c11b0
      try clear c11b1
      try clear c11b2
      obtain ⟨kq, x40_5, rfl, HA, HJ5, HO_3, HB⟩ := hcut
      cases kq with
      | zero => exact absurd HA.out (by simp [laws_FnNameFind.j0])
      | succ kj5 =>
        have H := HA.out
        clear HA
        simp only [laws_FnNameFind.j0] at H
        by_cases c12 : x40_5 = true
        · subst c12
          rw [if_pos rfl] at H
          obtain rfl := Option.some.inj H
          go_wp2
          go_ret
          exact ⟨z_10, z_5⟩
        · replace c12 := Bool.eq_false_iff.mpr c12
          subst c12
          rw [if_neg (show ¬ (false = true) by decide)] at H
          replace H := Option.bind_eq_some_iff.mp H
          obtain ⟨⟨t263, t264, t265, t266, t267, t268⟩, A130, H⟩ := H
          replace H : (if t268 = true then (laws_FnNameFind.j1 kj5 t255 t259 t260 (t264 == 0) t263 t264 t265 t266 t267) else (laws_FnNameFind.j1 kj5 t255 t259 t260 true t263 t264 t265 t266 t267)) = some r := H
          have A13 := Aside0.mk A130
          clear A130
          have HC14 := Aside0.mk H
          clear H
          go_upto_region 9 with (first | ((with_reducible refine gate_callee (f := 31) rfl ?_); refine goesL_ (some 44) rfl rfl Try.func31 (z_0) rfl #[.slice Ao8 t255.length co8, .string t256] rfl (z_11) ?_; (with_reducible refine (impl_NameAsk.calls kj5 _ _ t255 t256 t263 t264 t265 t266 t267 t268 _ ?side1 ?side2 A13.out).mono ?_); (case side1 => exact z_53); (case side2 => exact z_54); rintro e w15 ⟨rfl, hb⟩; refine ⟨_, rfl, ?_⟩; have n0_ := Aside0.mk (Kd.R_below (z_55) hb); have n1_ := Aside0.mk (below_step (z_5) hb); clear HO_3; clear HB; have HO_3 := n0_; have HB := n1_; clear n0_ n1_; (try clear hb); (try clear hb2); (try clear hk); (try clear hi)) | ((with_reducible refine gate_dst (N := 9) rfl ?_); refine box_event ?hg (N := 9) ?hd (cs := #[.string (⟨#[]⟩ : ByteArray), .int .i64 0, .int .i64 0, .string (⟨#[]⟩ : ByteArray), .int .i64 0]) (t := 26) ?hr ?_; (case hd => rfl); (case hg => rfl); (case hr => exact z_6); intro gb269 hg w16 hbox hb; have n0_ := Aside0.mk (Kd.R_below (Kd.R_elderB (z_55) gb269 (Nat.le_of_eq hg.symm)) hb); have n1_ := Aside0.mk (below_step (z_5) hb); have n2_ := Aside0.mk (hbox); have n3_ := Aside0.mk ((z_15 : w.heap.size ≤ gb269)); have n4_ := Aside0.mk ((z_15 : w.heap.size ≤ gb269)); clear HO_3; clear HB; have HO_3 := n0_; have HB := n1_; have BK269 := n2_; have GW269 := n3_; have GE269 := n4_; clear n0_ n1_ n2_ n3_ n4_; clear hb hbox hg; have hcz17_0 : w16.cell? ⟨gb269, 0, none⟩ = some (.string (⟨#[]⟩ : ByteArray)) := (blk_cell BK269.out 0).trans rfl; have hcz17_1 : w16.cell? ⟨gb269, 1, none⟩ = some (.int .i64 0) := (blk_cell BK269.out 1).trans rfl; have hcz17_2 : w16.cell? ⟨gb269, 2, none⟩ = some (.int .i64 0) := (blk_cell BK269.out 2).trans rfl; have hcz17_3 : w16.cell? ⟨gb269, 3, none⟩ = some (.string (⟨#[]⟩ : ByteArray)) := (blk_cell BK269.out 3).trans rfl; have hcz17_4 : w16.cell? ⟨gb269, 4, none⟩ = some (.int .i64 0) := (blk_cell BK269.out 4).trans rfl; have hfz17_0 := blk_frozen BK269.out 0; have hfz17_1 := blk_frozen BK269.out 1; have hfz17_2 := blk_frozen BK269.out 2; have hfz17_3 := blk_frozen BK269.out 3; have hfz17_4 := blk_frozen BK269.out 4))
          (try simp only [Act.put, List.setIfInBounds_toArray, List.set_cons_zero, List.set_cons_succ])
          go_cut [53] (fun v53 wc => ∃ (kq : Nat) (x53_13 : Bool), v53 = .bool x53_13 ∧ Aside0 (laws_FnNameFind.j1 kq t255 t259 t260 x53_13 t263 t264 t265 t266 t267 = some r) ∧ Aside0 (kq ≤ kj5) ∧ Aside0 (Kd.R k26 26 wc w.heap.size (fun k_ => k_ ≠ gb269) (.slice Ao8 t255.length co8) t255) ∧ Aside0 (wc.heap[gb269]? = some (.cells #[.string t263, .int .i64 t264, .int .i64 t265, .string t266, .int .i64 t267] 26 (0, 0))) ∧ Aside0 (Below w.heap.size w wc))
          case first =>
            have H := HC14.out
            clear HC14
            by_cases c18 : t268 = true
            · subst c18
              rw [if_pos rfl] at H
              have H' := Aside0.mk H
              clear H
              have hcz19_0 : w16.cell? ⟨gb269, 0, none⟩ = some (.string (⟨#[]⟩ : ByteArray)) := (blk_cell BK269.out 0).trans rfl
              have hcz19_1 : w16.cell? ⟨gb269, 1, none⟩ = some (.int .i64 0) := (blk_cell BK269.out 1).trans rfl
              have hcz19_2 : w16.cell? ⟨gb269, 2, none⟩ = some (.int .i64 0) := (blk_cell BK269.out 2).trans rfl
              have hcz19_3 : w16.cell? ⟨gb269, 3, none⟩ = some (.string (⟨#[]⟩ : ByteArray)) := (blk_cell BK269.out 3).trans rfl
              have hcz19_4 : w16.cell? ⟨gb269, 4, none⟩ = some (.int .i64 0) := (blk_cell BK269.out 4).trans rfl
              have hfz19_0 := blk_frozen BK269.out 0
              have hfz19_1 := blk_frozen BK269.out 1
              have hfz19_2 := blk_frozen BK269.out 2
              have hfz19_3 := blk_frozen BK269.out 3
              have hfz19_4 := blk_frozen BK269.out 4
              go_wp2
              go_meet
              case rel => exact ⟨_, ((t264 == 0)), (z_1), H', ⟨by have := HJ5.out; first | omega | exact Nat.le_refl _⟩, ⟨z_56⟩, ⟨z_57⟩, ⟨z_58⟩⟩
            · replace c18 := Bool.eq_false_iff.mpr c18
              subst c18
              rw [if_neg (show ¬ (false = true) by decide)] at H
              have H' := Aside0.mk H
              clear H
              go_wp2
              go_meet
              case rel => exact ⟨_, (true), (z_1), H', ⟨by have := HJ5.out; first | omega | exact Nat.le_refl _⟩, ⟨z_56⟩, ⟨z_57⟩, ⟨z_58⟩⟩
          case rest =>
            clear HC14
            try clear c1
            try clear c2
            try clear c2b0
            try clear c2b1
            try clear p2
            try clear c3
            try clear c4
            try clear c11
            try clear c11b0
            try clear c11b1
            try clear c11b2
            try clear c12
            try clear c18
            try clear hcz17_0
            try clear hcz17_1
            try clear hcz17_2
            try clear hcz17_3
            try clear hcz17_4
            try clear hcz19_0
            try clear hcz19_1
            try clear hcz19_2
            try clear hcz19_3
            try clear hcz19_4
            try clear hfz17_0
            try clear hfz17_1
            try clear hfz17_2
            try clear hfz17_3
            try clear hfz17_4
            try clear hfz19_0
            try clear hfz19_1
            try clear hfz19_2
            try clear hfz19_3
            try clear hfz19_4
            try clear p2
            obtain ⟨kq, x53_13, rfl, HA, HJ13, HO_3, BK269, HB⟩ := hcut
            cases kq with
            | zero => exact absurd HA.out (by simp [laws_FnNameFind.j1])
            | succ kj13 =>
              have H := HA.out
              clear HA
              simp only [laws_FnNameFind.j1] at H
              by_cases c20 : x53_13 = true
              · subst c20
                rw [if_pos rfl] at H
                by_cases c21 : t260 = true
                · subst c21
                  rw [if_pos rfl] at H
                  obtain rfl := Option.some.inj H
                  go_wp2
                  go_ret
                  exact ⟨z_10, z_58⟩
                · replace c21 := Bool.eq_false_iff.mpr c21
                  subst c21
                  rw [if_neg (show ¬ (false = true) by decide)] at H
                  replace H := Option.bind_eq_some_iff.mp H
                  obtain ⟨t270, A220, H⟩ := H
                  have A22 := Aside0.mk A220
                  clear A220
                  obtain rfl := Option.some.inj H
                  go_wp2_with (first | (go_at_call 23; (with_reducible refine (laws_alive.calls kj13  t270 _ A22.out).mono ?_); rintro e w23 ⟨rfl, hb⟩; have n0_ := Aside0.mk (Kd.R_below (z_55) hb); have n1_ := Aside0.mk (blk_below (g := gb269) (o := .cells #[.string t263, .int .i64 t264, .int .i64 t265, .string t266, .int .i64 t267] 26 (0, 0)) (z_59) hb); have n2_ := Aside0.mk (below_step (z_58) hb); clear HO_3; clear BK269; clear HB; have HO_3 := n0_; have BK269 := n1_; have HB := n2_; clear n0_ n1_ n2_; (try clear hb); (try clear hb2); (try clear hk); (try clear hi)))
                  go_ret
                  exact ⟨z_10, z_58⟩
              · replace c20 := Bool.eq_false_iff.mpr c20
                subst c20
                rw [if_neg (show ¬ (false = true) by decide)] at H
                by_cases c24 : t264 = 1
                · rw [if_pos c24] at H
                  have c24b0 : (t264 == 1) = true := beq_iff_eq.mpr c24
                  have c24b1 : (t264 != 1) = false := bne_eq_false_iff_eq.mpr c24
                  clear c24
                  by_cases c25 : t260 = true
                  · subst c25
                    rw [if_pos rfl] at H
                    by_cases c26 : t259 = t265
                    · rw [if_pos c26] at H
                      have c26b0 : (t259 == t265) = true := beq_iff_eq.mpr c26
                      have c26b1 : (t259 != t265) = false := bne_eq_false_iff_eq.mpr c26
                      clear c26
                      replace H := Option.bind_eq_some_iff.mp H
                      obtain ⟨t271, A270, H⟩ := H
                      have A27 := Aside0.mk A270
                      clear A270
                      obtain rfl := Option.some.inj H
                      have hcz28_0 : wc.cell? ⟨gb269, 0, none⟩ = some (.string t263) := (blk_cell BK269.out 0).trans rfl
                      have hcz28_1 : wc.cell? ⟨gb269, 1, none⟩ = some (.int .i64 t264) := (blk_cell BK269.out 1).trans rfl
                      have hcz28_2 : wc.cell? ⟨gb269, 2, none⟩ = some (.int .i64 t265) := (blk_cell BK269.out 2).trans rfl
                      have hcz28_3 : wc.cell? ⟨gb269, 3, none⟩ = some (.string t266) := (blk_cell BK269.out 3).trans rfl
                      have hcz28_4 : wc.cell? ⟨gb269, 4, none⟩ = some (.int .i64 t267) := (blk_cell BK269.out 4).trans rfl
                      have hfz28_0 := blk_frozen BK269.out 0
                      have hfz28_1 := blk_frozen BK269.out 1
                      have hfz28_2 := blk_frozen BK269.out 2
                      have hfz28_3 := blk_frozen BK269.out 3
                      have hfz28_4 := blk_frozen BK269.out 4
                      go_wp2_with (first | (go_at_call 23; (with_reducible refine (laws_alive.calls kj13  t271 _ A27.out).mono ?_); rintro e w29 ⟨rfl, hb⟩; have n0_ := Aside0.mk (Kd.R_below (z_55) hb); have n1_ := Aside0.mk (blk_below (g := gb269) (o := .cells #[.string t263, .int .i64 t264, .int .i64 t265, .string t266, .int .i64 t267] 26 (0, 0)) (z_59) hb); have n2_ := Aside0.mk (below_step (z_58) hb); clear HO_3; clear BK269; clear HB; have HO_3 := n0_; have BK269 := n1_; have HB := n2_; clear n0_ n1_ n2_; (try clear hb); (try clear hb2); (try clear hk); (try clear hi)))
                      go_ret
                      exact ⟨z_10, z_58⟩
                    · rw [if_neg c26] at H
                      have c26b0 : (t259 == t265) = false := beq_eq_false_iff_ne.mpr c26
                      have c26b1 : (t259 != t265) = true := bne_iff_ne.mpr c26
                      obtain rfl := Option.some.inj H
                      have hcz30_0 : wc.cell? ⟨gb269, 0, none⟩ = some (.string t263) := (blk_cell BK269.out 0).trans rfl
                      have hcz30_1 : wc.cell? ⟨gb269, 1, none⟩ = some (.int .i64 t264) := (blk_cell BK269.out 1).trans rfl
                      have hcz30_2 : wc.cell? ⟨gb269, 2, none⟩ = some (.int .i64 t265) := (blk_cell BK269.out 2).trans rfl
                      have hcz30_3 : wc.cell? ⟨gb269, 3, none⟩ = some (.string t266) := (blk_cell BK269.out 3).trans rfl
                      have hcz30_4 : wc.cell? ⟨gb269, 4, none⟩ = some (.int .i64 t267) := (blk_cell BK269.out 4).trans rfl
                      have hfz30_0 := blk_frozen BK269.out 0
                      have hfz30_1 := blk_frozen BK269.out 1
                      have hfz30_2 := blk_frozen BK269.out 2
                      have hfz30_3 := blk_frozen BK269.out 3
                      have hfz30_4 := blk_frozen BK269.out 4
                      go_wp2
                      go_ret
                      exact ⟨z_10, z_58⟩
                  · replace c25 := Bool.eq_false_iff.mpr c25
                    subst c25
                    rw [if_neg (show ¬ (false = true) by decide)] at H
                    obtain rfl := Option.some.inj H
                    have hcz31_0 : wc.cell? ⟨gb269, 0, none⟩ = some (.string t263) := (blk_cell BK269.out 0).trans rfl
                    have hcz31_1 : wc.cell? ⟨gb269, 1, none⟩ = some (.int .i64 t264) := (blk_cell BK269.out 1).trans rfl
                    have hcz31_2 : wc.cell? ⟨gb269, 2, none⟩ = some (.int .i64 t265) := (blk_cell BK269.out 2).trans rfl
                    have hcz31_3 : wc.cell? ⟨gb269, 3, none⟩ = some (.string t266) := (blk_cell BK269.out 3).trans rfl
                    have hcz31_4 : wc.cell? ⟨gb269, 4, none⟩ = some (.int .i64 t267) := (blk_cell BK269.out 4).trans rfl
                    have hfz31_0 := blk_frozen BK269.out 0
                    have hfz31_1 := blk_frozen BK269.out 1
                    have hfz31_2 := blk_frozen BK269.out 2
                    have hfz31_3 := blk_frozen BK269.out 3
                    have hfz31_4 := blk_frozen BK269.out 4
                    go_wp2
                    go_ret
                    exact ⟨z_10, z_58⟩
                · rw [if_neg c24] at H
                  have c24b0 : (t264 == 1) = false := beq_eq_false_iff_ne.mpr c24
                  have c24b1 : (t264 != 1) = true := bne_iff_ne.mpr c24
                  replace H := Option.bind_eq_some_iff.mp H
                  obtain ⟨⟨t272, t273⟩, A320, H⟩ := H
                  replace H : (if t260 = true then (if t273 = true then (if t272 = t259 then ((laws_alive.f kj13).bind fun t274 => (some t274)) else (some false)) else (some false)) else ((laws_alive.f kj13).bind fun t275 => (some t275))) = some r := H
                  have A32 := Aside0.mk A320
                  clear A320
                  by_cases c33 : t260 = true
                  · subst c33
                    rw [if_pos rfl] at H
                    by_cases c34 : t273 = true
                    · subst c34
                      rw [if_pos rfl] at H
                      by_cases c35 : t272 = t259
                      · rw [if_pos c35] at H
                        have c35b0 : (t272 == t259) = true := beq_iff_eq.mpr c35
                        have c35b1 : (t272 != t259) = false := bne_eq_false_iff_eq.mpr c35
                        clear c35
                        replace H := Option.bind_eq_some_iff.mp H
                        obtain ⟨t274, A360, H⟩ := H
                        have A36 := Aside0.mk A360
                        clear A360
                        obtain rfl := Option.some.inj H
                        have hcz37_0 : wc.cell? ⟨gb269, 0, none⟩ = some (.string t263) := (blk_cell BK269.out 0).trans rfl
                        have hcz37_1 : wc.cell? ⟨gb269, 1, none⟩ = some (.int .i64 t264) := (blk_cell BK269.out 1).trans rfl
                        have hcz37_2 : wc.cell? ⟨gb269, 2, none⟩ = some (.int .i64 t265) := (blk_cell BK269.out 2).trans rfl
                        have hcz37_3 : wc.cell? ⟨gb269, 3, none⟩ = some (.string t266) := (blk_cell BK269.out 3).trans rfl
                        have hcz37_4 : wc.cell? ⟨gb269, 4, none⟩ = some (.int .i64 t267) := (blk_cell BK269.out 4).trans rfl
                        have hfz37_0 := blk_frozen BK269.out 0
                        have hfz37_1 := blk_frozen BK269.out 1
                        have hfz37_2 := blk_frozen BK269.out 2
                        have hfz37_3 := blk_frozen BK269.out 3
                        have hfz37_4 := blk_frozen BK269.out 4
                        go_wp2_with (first | ((with_reducible refine gate_callee (f := 40) rfl ?_); refine goesL_ (some 76) rfl rfl Try.func40 (z_0) rfl #[.slice Ao8 t255.length co8, .string t266] rfl (z_11) ?_; (with_reducible refine (impl_NameFind.calls kj13 _ _ t255 t266 t272 true _ ?side1 ?side2 A32.out).mono ?_); (case side1 => exact z_53); (case side2 => exact z_54); rintro e w38 ⟨rfl, hb⟩; refine ⟨_, rfl, ?_⟩; have n0_ := Aside0.mk (Kd.R_below (z_55) hb); have n1_ := Aside0.mk (blk_below (g := gb269) (o := .cells #[.string t263, .int .i64 t264, .int .i64 t265, .string t266, .int .i64 t267] 26 (0, 0)) (z_59) hb); have n2_ := Aside0.mk (below_step (z_58) hb); clear HO_3; clear BK269; clear HB; have HO_3 := n0_; have BK269 := n1_; have HB := n2_; clear n0_ n1_ n2_; (try clear hb); (try clear hb2); (try clear hk); (try clear hi)) | (go_at_call 23; (with_reducible refine (laws_alive.calls kj13  t274 _ A36.out).mono ?_); rintro e w39 ⟨rfl, hb⟩; have n0_ := Aside0.mk (Kd.R_below (z_55) hb); have n1_ := Aside0.mk (blk_below (g := gb269) (o := .cells #[.string t263, .int .i64 t264, .int .i64 t265, .string t266, .int .i64 t267] 26 (0, 0)) (z_59) hb); have n2_ := Aside0.mk (below_step (z_58) hb); clear HO_3; clear BK269; clear HB; have HO_3 := n0_; have BK269 := n1_; have HB := n2_; clear n0_ n1_ n2_; (try clear hb); (try clear hb2); (try clear hk); (try clear hi)))
                        go_ret
                        exact ⟨z_10, z_58⟩
                      · rw [if_neg c35] at H
                        have c35b0 : (t272 == t259) = false := beq_eq_false_iff_ne.mpr c35
                        have c35b1 : (t272 != t259) = true := bne_iff_ne.mpr c35
                        obtain rfl := Option.some.inj H
                        have hcz40_0 : wc.cell? ⟨gb269, 0, none⟩ = some (.string t263) := (blk_cell BK269.out 0).trans rfl
                        have hcz40_1 : wc.cell? ⟨gb269, 1, none⟩ = some (.int .i64 t264) := (blk_cell BK269.out 1).trans rfl
                        have hcz40_2 : wc.cell? ⟨gb269, 2, none⟩ = some (.int .i64 t265) := (blk_cell BK269.out 2).trans rfl
                        have hcz40_3 : wc.cell? ⟨gb269, 3, none⟩ = some (.string t266) := (blk_cell BK269.out 3).trans rfl
                        have hcz40_4 : wc.cell? ⟨gb269, 4, none⟩ = some (.int .i64 t267) := (blk_cell BK269.out 4).trans rfl
                        have hfz40_0 := blk_frozen BK269.out 0
                        have hfz40_1 := blk_frozen BK269.out 1
                        have hfz40_2 := blk_frozen BK269.out 2
                        have hfz40_3 := blk_frozen BK269.out 3
                        have hfz40_4 := blk_frozen BK269.out 4
                        go_wp2_with (first | ((with_reducible refine gate_callee (f := 40) rfl ?_); refine goesL_ (some 76) rfl rfl Try.func40 (z_0) rfl #[.slice Ao8 t255.length co8, .string t266] rfl (z_11) ?_; (with_reducible refine (impl_NameFind.calls kj13 _ _ t255 t266 t272 true _ ?side1 ?side2 A32.out).mono ?_); (case side1 => exact z_53); (case side2 => exact z_54); rintro e w41 ⟨rfl, hb⟩; refine ⟨_, rfl, ?_⟩; have n0_ := Aside0.mk (Kd.R_below (z_55) hb); have n1_ := Aside0.mk (blk_below (g := gb269) (o := .cells #[.string t263, .int .i64 t264, .int .i64 t265, .string t266, .int .i64 t267] 26 (0, 0)) (z_59) hb); have n2_ := Aside0.mk (below_step (z_58) hb); clear HO_3; clear BK269; clear HB; have HO_3 := n0_; have BK269 := n1_; have HB := n2_; clear n0_ n1_ n2_; (try clear hb); (try clear hb2); (try clear hk); (try clear hi)))
                        go_ret
                        exact ⟨z_10, z_58⟩
                    · replace c34 := Bool.eq_false_iff.mpr c34
                      subst c34
                      rw [if_neg (show ¬ (false = true) by decide)] at H
                      obtain rfl := Option.some.inj H
                      have hcz42_0 : wc.cell? ⟨gb269, 0, none⟩ = some (.string t263) := (blk_cell BK269.out 0).trans rfl
                      have hcz42_1 : wc.cell? ⟨gb269, 1, none⟩ = some (.int .i64 t264) := (blk_cell BK269.out 1).trans rfl
                      have hcz42_2 : wc.cell? ⟨gb269, 2, none⟩ = some (.int .i64 t265) := (blk_cell BK269.out 2).trans rfl
                      have hcz42_3 : wc.cell? ⟨gb269, 3, none⟩ = some (.string t266) := (blk_cell BK269.out 3).trans rfl
                      have hcz42_4 : wc.cell? ⟨gb269, 4, none⟩ = some (.int .i64 t267) := (blk_cell BK269.out 4).trans rfl
                      have hfz42_0 := blk_frozen BK269.out 0
                      have hfz42_1 := blk_frozen BK269.out 1
                      have hfz42_2 := blk_frozen BK269.out 2
                      have hfz42_3 := blk_frozen BK269.out 3
                      have hfz42_4 := blk_frozen BK269.out 4
                      go_wp2_with (first | ((with_reducible refine gate_callee (f := 40) rfl ?_); refine goesL_ (some 76) rfl rfl Try.func40 (z_0) rfl #[.slice Ao8 t255.length co8, .string t266] rfl (z_11) ?_; (with_reducible refine (impl_NameFind.calls kj13 _ _ t255 t266 t272 false _ ?side1 ?side2 A32.out).mono ?_); (case side1 => exact z_53); (case side2 => exact z_54); rintro e w43 ⟨rfl, hb⟩; refine ⟨_, rfl, ?_⟩; have n0_ := Aside0.mk (Kd.R_below (z_55) hb); have n1_ := Aside0.mk (blk_below (g := gb269) (o := .cells #[.string t263, .int .i64 t264, .int .i64 t265, .string t266, .int .i64 t267] 26 (0, 0)) (z_59) hb); have n2_ := Aside0.mk (below_step (z_58) hb); clear HO_3; clear BK269; clear HB; have HO_3 := n0_; have BK269 := n1_; have HB := n2_; clear n0_ n1_ n2_; (try clear hb); (try clear hb2); (try clear hk); (try clear hi)))
                      go_ret
                      exact ⟨z_10, z_58⟩
                  · replace c33 := Bool.eq_false_iff.mpr c33
                    subst c33
                    rw [if_neg (show ¬ (false = true) by decide)] at H
                    replace H := Option.bind_eq_some_iff.mp H
                    obtain ⟨t275, A440, H⟩ := H
                    have A44 := Aside0.mk A440
                    clear A440
                    obtain rfl := Option.some.inj H
                    have hcz45_0 : wc.cell? ⟨gb269, 0, none⟩ = some (.string t263) := (blk_cell BK269.out 0).trans rfl
                    have hcz45_1 : wc.cell? ⟨gb269, 1, none⟩ = some (.int .i64 t264) := (blk_cell BK269.out 1).trans rfl
                    have hcz45_2 : wc.cell? ⟨gb269, 2, none⟩ = some (.int .i64 t265) := (blk_cell BK269.out 2).trans rfl
                    have hcz45_3 : wc.cell? ⟨gb269, 3, none⟩ = some (.string t266) := (blk_cell BK269.out 3).trans rfl
                    have hcz45_4 : wc.cell? ⟨gb269, 4, none⟩ = some (.int .i64 t267) := (blk_cell BK269.out 4).trans rfl
                    have hfz45_0 := blk_frozen BK269.out 0
                    have hfz45_1 := blk_frozen BK269.out 1
                    have hfz45_2 := blk_frozen BK269.out 2
                    have hfz45_3 := blk_frozen BK269.out 3
                    have hfz45_4 := blk_frozen BK269.out 4
                    go_wp2_with (first | ((with_reducible refine gate_callee (f := 40) rfl ?_); refine goesL_ (some 76) rfl rfl Try.func40 (z_0) rfl #[.slice Ao8 t255.length co8, .string t266] rfl (z_11) ?_; (with_reducible refine (impl_NameFind.calls kj13 _ _ t255 t266 t272 t273 _ ?side1 ?side2 A32.out).mono ?_); (case side1 => exact z_53); (case side2 => exact z_54); rintro e w46 ⟨rfl, hb⟩; refine ⟨_, rfl, ?_⟩; have n0_ := Aside0.mk (Kd.R_below (z_55) hb); have n1_ := Aside0.mk (blk_below (g := gb269) (o := .cells #[.string t263, .int .i64 t264, .int .i64 t265, .string t266, .int .i64 t267] 26 (0, 0)) (z_59) hb); have n2_ := Aside0.mk (below_step (z_58) hb); clear HO_3; clear BK269; clear HB; have HO_3 := n0_; have BK269 := n1_; have HB := n2_; clear n0_ n1_ n2_; (try clear hb); (try clear hb2); (try clear hk); (try clear hi)) | (go_at_call 23; (with_reducible refine (laws_alive.calls kj13  t275 _ A44.out).mono ?_); rintro e w47 ⟨rfl, hb⟩; have n0_ := Aside0.mk (Kd.R_below (z_55) hb); have n1_ := Aside0.mk (blk_below (g := gb269) (o := .cells #[.string t263, .int .i64 t264, .int .i64 t265, .string t266, .int .i64 t267] 26 (0, 0)) (z_59) hb); have n2_ := Aside0.mk (below_step (z_58) hb); clear HO_3; clear BK269; clear HB; have HO_3 := n0_; have BK269 := n1_; have HB := n2_; clear n0_ n1_ n2_; (try clear hb); (try clear hb2); (try clear hk); (try clear hi)))
                    go_ret
                    exact ⟨z_10, z_58⟩

/-- THE ONE PURE STATEMENT of laws_FnNameFind: yours. -/
def laws_FnNameFind.Pure : Prop := ∀ (l0 : List Int), l0.length ≤ maxLen → l0.length * 1 ≤ 140737488351232 → (∀ x ∈ l0, (Lit.int .u8 x).wf = true) → ∃ k, laws_FnNameFind.f k l0 = some true
theorem laws_FnNameFind.walk (P : laws_FnNameFind.Pure) (a0 : Option Addr) (len0 cap0 : Nat) (z0 : List Int) (w : World) (w0 : (a0 = none ∧ len0 = 0 ∧ cap0 = 0 ∧ z0 = []) ∨ ∃ x, a0 = some x ∧ len0 ≤ cap0 ∧ cap0 ≤ maxLen ∧ z0.length = cap0 ∧ (∀ i, i < z0.length → w.cell? (x.add i) = some (.int .u8 (z0.getD i 0))) ∧ ∀ n ∈ z0, (Lit.int .u8 n).wf = true) (y0 : len0 * 1 ≤ 140737488351232) :
    Calls Try.prog 11 #[.slice a0 len0 cap0] w fun e w' => e = .returned (.bool true) ∧ Below w.heap.size w w' := by
  obtain ⟨l0, rfl, hr0, hm0, hw0, hc0⟩ := ReadsInt.ofRowC w0
  obtain ⟨k, h⟩ := P l0 hm0 y0 hw0
  refine (laws_FnNameFind.calls k _ _ l0 true w (Kd.C_of_reads (d := (0 : Int)) (h1 := fun _ => rfl) hr0) hc0 h).mono ?_
  rintro e w' ⟨rfl, hd⟩
  exact ⟨rfl, hd⟩

end Go.Proofs.Ytmgnmgobibpjjaa.GFnNameFind
