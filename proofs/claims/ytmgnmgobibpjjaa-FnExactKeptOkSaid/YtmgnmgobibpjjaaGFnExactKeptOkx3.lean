/- What the Go functions that FnExactKeptOk reaches come to, walked step by step; there is no condition beyond those each statement names. -/
import Derived.Test.YtmgnmgobibpjjaaGFnExactKeptOkx0
import Derived.Test.YtmgnmgobibpjjaaGFnExactKeptOkx2
namespace Go.Proofs.Ytmgnmgobibpjjaa.GFnExactKeptOk
open Go.RowKit Go.Proofs.YtmgnmgobibpjjaaU.PrintWords Go.Proofs.YtmgnmgobibpjjaaU.PrintLast Go.Proofs.YtmgnmgobibpjjaaU.PrintMore
attribute [local go_sem] max2_int min2_int max_two min_two max_three min_three max_four min_four   -- for this text's walks alone
set_option linter.unusedVariables false
set_option linter.unusedSimpArgs false

/-! ### impl_NameOk: function 21 -/
def impl_NameOk.j0 : Nat → Bool → ByteArray → Int → Int → ByteArray → Int → Option (Bool)
  | 0, _, _, _, _, _, _ => none
  | k + 1, x12, x150000, x150001, x150002, x150003, x150004 => if x12 = true then (some false) else (if x150001 = 0 then (if x150002 = 0 then (some (x150003.toList == ([] : List UInt8))) else (some false)) else (if x150001 = 1 then ((impl_word.f x150002).bind fun t152 => (if t152 = true then (some (x150003.toList == ([] : List UInt8))) else (some false))) else (if x150001 = 2 then (if x150002 = 0 then ((impl_textOk.f k x150003).bind fun t153 => (some t153)) else (some false)) else (some false))))
def impl_NameOk.f (k : Nat) (a0_0 : ByteArray) (a0_1 : Int) (a0_2 : Int) (a0_3 : ByteArray) (a0_4 : Int) : Option (Bool) := (impl_textOk.f k a0_0).bind fun t150 => (if t150 = true then ((impl_in.f a0_4 1 50).bind fun t151 => (impl_NameOk.j0 k (!t151) a0_0 a0_1 a0_2 a0_3 a0_4)) else (impl_NameOk.j0 k true a0_0 a0_1 a0_2 a0_3 a0_4))
theorem impl_NameOk.mono_l : ∀ k, (∀ y0 y1 y2 y3 y4 y5, LeO (impl_NameOk.j0 k y0 y1 y2 y3 y4 y5) (impl_NameOk.j0 (k + 1) y0 y1 y2 y3 y4 y5))
  | 0 => fun _ _ _ _ _ _ r h => by simp [impl_NameOk.j0] at h
  | k + 1 => by
    have ih0 := impl_NameOk.mono_l k
    · intro y0 y1 y2 y3 y4 y5
      unfold impl_NameOk.j0
      repeat' first
      | (with_reducible exact ih0 _ _ _ _ _ _)
      | (with_reducible exact impl_textOk.mono _ _)
      | (with_reducible exact LeO.refl _)
      | (with_reducible exact LeO.none _)
      | (with_reducible refine LeO.ite ?_ ?_)
      | (with_reducible refine LeO.bind ?_ (fun _ => ?_))
      | exact ih0 _ _ _ _ _ _
      | exact impl_textOk.mono _ _
      | exact LeO.none _
      | refine LeO.ite ?_ ?_
      | refine LeO.bind ?_ (fun _ => ?_)
theorem impl_NameOk.mono : ∀ a0 a1 a2 a3 a4 k, LeO (impl_NameOk.f k a0 a1 a2 a3 a4) (impl_NameOk.f (k + 1) a0 a1 a2 a3 a4) := by
  intro a0 a1 a2 a3 a4 k
  have ih0 := impl_NameOk.mono_l k
  unfold impl_NameOk.f
  repeat' first
      | (with_reducible exact ih0 _ _ _ _ _ _)
      | (with_reducible exact impl_textOk.mono _ _)
      | (with_reducible exact LeO.refl _)
      | (with_reducible exact LeO.none _)
      | (with_reducible refine LeO.ite ?_ ?_)
      | (with_reducible refine LeO.bind ?_ (fun _ => ?_))
      | exact ih0 _ _ _ _ _ _
      | exact impl_textOk.mono _ _
      | exact LeO.none _
      | refine LeO.ite ?_ ?_
      | refine LeO.bind ?_ (fun _ => ?_)
set_option maxHeartbeats 8000000 in
set_option maxRecDepth 100000 in
theorem impl_NameOk.calls (k : Nat) (a0_0 : ByteArray) (a0_1 : Int) (a0_2 : Int) (a0_3 : ByteArray) (a0_4 : Int) (r : Bool) (w : World) (h : impl_NameOk.f k a0_0 a0_1 a0_2 a0_3 a0_4 = some r) :
    Calls Try.prog 21 #[.agg #[.string a0_0, .int .i64 a0_1, .int .i64 a0_2, .string a0_3, .int .i64 a0_4]] w fun e w' => e = .returned (.bool r) ∧ Below w.heap.size w w' := by
  have hu26 := Try.underlying26
  have HB := Aside0.mk (Below.refl w.heap.size w)
  have H : ((impl_textOk.f k a0_0).bind fun t150 => (if t150 = true then ((impl_in.f a0_4 1 50).bind fun t151 => (impl_NameOk.j0 k (!t151) a0_0 a0_1 a0_2 a0_3 a0_4)) else (impl_NameOk.j0 k true a0_0 a0_1 a0_2 a0_3 a0_4))) = some r := h
  clear h
  have HC2 := Aside0.mk H
  clear H
  go_enter Try.func21, Try.ntmps21
  go_upto_region 1 with (first | ((with_reducible refine gate_dst (N := 1) rfl ?_); refine box_event ?hg (N := 1) ?hd (cs := #[.string a0_0, .int .i64 a0_1, .int .i64 a0_2, .string a0_3, .int .i64 a0_4]) (t := 26) ?hr ?_; (case hd => rfl); (case hg => rfl); (case hr => exact z_1); intro gb149 hg w3 hbox hb; have n0_ := Aside0.mk (below_step (z_2) hb); have n1_ := Aside0.mk (hbox); have n2_ := Aside0.mk ((z_3 : w.heap.size ≤ gb149)); have n3_ := Aside0.mk ((z_3 : w.heap.size ≤ gb149)); clear HB; have HB := n0_; have BK149 := n1_; have GW149 := n2_; have GE149 := n3_; clear n0_ n1_ n2_ n3_; clear hb hbox hg))
  (try simp only [Act.put, List.setIfInBounds_toArray, List.set_cons_zero, List.set_cons_succ])
  go_cut [12] (fun v12 wc => ∃ (kq : Nat) (x12_1 : Bool), v12 = .bool x12_1 ∧ Aside0 (impl_NameOk.j0 kq x12_1 a0_0 a0_1 a0_2 a0_3 a0_4 = some r) ∧ Aside0 (kq ≤ k) ∧ Aside0 (wc.heap[gb149]? = some (.cells #[.string a0_0, .int .i64 a0_1, .int .i64 a0_2, .string a0_3, .int .i64 a0_4] 26 (0, 0))) ∧ Aside0 (Below w.heap.size w wc))
  case first =>
    have H := HC2.out
    clear HC2
    replace H := Option.bind_eq_some_iff.mp H
    obtain ⟨t150, A40, H⟩ := H
    have A4 := Aside0.mk A40
    clear A40
    by_cases c5 : t150 = true
    · subst c5
      rw [if_pos rfl] at H
      replace H := Option.bind_eq_some_iff.mp H
      obtain ⟨t151, A60, H⟩ := H
      have A6 := Aside0.mk A60
      clear A60
      have H' := Aside0.mk H
      clear H
      have hcz7_0 : w3.cell? ⟨gb149, 0, none⟩ = some (.string a0_0) := (blk_cell BK149.out 0).trans rfl
      have hcz7_1 : w3.cell? ⟨gb149, 1, none⟩ = some (.int .i64 a0_1) := (blk_cell BK149.out 1).trans rfl
      have hcz7_2 : w3.cell? ⟨gb149, 2, none⟩ = some (.int .i64 a0_2) := (blk_cell BK149.out 2).trans rfl
      have hcz7_3 : w3.cell? ⟨gb149, 3, none⟩ = some (.string a0_3) := (blk_cell BK149.out 3).trans rfl
      have hcz7_4 : w3.cell? ⟨gb149, 4, none⟩ = some (.int .i64 a0_4) := (blk_cell BK149.out 4).trans rfl
      have hfz7_0 := blk_frozen BK149.out 0
      have hfz7_1 := blk_frozen BK149.out 1
      have hfz7_2 := blk_frozen BK149.out 2
      have hfz7_3 := blk_frozen BK149.out 3
      have hfz7_4 := blk_frozen BK149.out 4
      go_wp2_with (first | ((with_reducible refine gate_callee (f := 56) rfl ?_); refine goesL_ (some 5) rfl rfl Try.func56 (z_0) rfl #[.string a0_0] rfl (z_6) ?_; (with_reducible refine (impl_textOk.calls k a0_0 true _ A4.out).mono ?_); rintro e w8 ⟨rfl, hb⟩; refine ⟨_, rfl, ?_⟩; have n0_ := Aside0.mk (blk_below (g := gb149) (o := .cells #[.string a0_0, .int .i64 a0_1, .int .i64 a0_2, .string a0_3, .int .i64 a0_4] 26 (0, 0)) (z_36) hb); have n1_ := Aside0.mk (below_step (z_37) hb); clear BK149; clear HB; have BK149 := n0_; have HB := n1_; clear n0_ n1_; (try clear hb); (try clear hb2); (try clear hk); (try clear hi); have hcz9_0 : w8.cell? ⟨gb149, 0, none⟩ = some (.string a0_0) := (blk_cell BK149.out 0).trans rfl; have hcz9_1 : w8.cell? ⟨gb149, 1, none⟩ = some (.int .i64 a0_1) := (blk_cell BK149.out 1).trans rfl; have hcz9_2 : w8.cell? ⟨gb149, 2, none⟩ = some (.int .i64 a0_2) := (blk_cell BK149.out 2).trans rfl; have hcz9_3 : w8.cell? ⟨gb149, 3, none⟩ = some (.string a0_3) := (blk_cell BK149.out 3).trans rfl; have hcz9_4 : w8.cell? ⟨gb149, 4, none⟩ = some (.int .i64 a0_4) := (blk_cell BK149.out 4).trans rfl; have hfz9_0 := blk_frozen BK149.out 0; have hfz9_1 := blk_frozen BK149.out 1; have hfz9_2 := blk_frozen BK149.out 2; have hfz9_3 := blk_frozen BK149.out 3; have hfz9_4 := blk_frozen BK149.out 4) | (go_at_call 57; (with_reducible refine (impl_in.calls a0_4 1 50 t151 _ A6.out).mono ?_); rintro e w' ⟨rfl, ⟨nd, rfl⟩⟩))
      go_meet
      case rel => exact ⟨_, (!t151), (z_9), H', ⟨z_13⟩, ⟨z_36⟩, ⟨z_37⟩⟩
    · replace c5 := Bool.eq_false_iff.mpr c5
      subst c5
      rw [if_neg (show ¬ (false = true) by decide)] at H
      have H' := Aside0.mk H
      clear H
      have hcz10_0 : w3.cell? ⟨gb149, 0, none⟩ = some (.string a0_0) := (blk_cell BK149.out 0).trans rfl
      have hcz10_1 : w3.cell? ⟨gb149, 1, none⟩ = some (.int .i64 a0_1) := (blk_cell BK149.out 1).trans rfl
      have hcz10_2 : w3.cell? ⟨gb149, 2, none⟩ = some (.int .i64 a0_2) := (blk_cell BK149.out 2).trans rfl
      have hcz10_3 : w3.cell? ⟨gb149, 3, none⟩ = some (.string a0_3) := (blk_cell BK149.out 3).trans rfl
      have hcz10_4 : w3.cell? ⟨gb149, 4, none⟩ = some (.int .i64 a0_4) := (blk_cell BK149.out 4).trans rfl
      have hfz10_0 := blk_frozen BK149.out 0
      have hfz10_1 := blk_frozen BK149.out 1
      have hfz10_2 := blk_frozen BK149.out 2
      have hfz10_3 := blk_frozen BK149.out 3
      have hfz10_4 := blk_frozen BK149.out 4
      go_wp2_with (first | ((with_reducible refine gate_callee (f := 56) rfl ?_); refine goesL_ (some 5) rfl rfl Try.func56 (z_0) rfl #[.string a0_0] rfl (z_6) ?_; (with_reducible refine (impl_textOk.calls k a0_0 false _ A4.out).mono ?_); rintro e w11 ⟨rfl, hb⟩; refine ⟨_, rfl, ?_⟩; have n0_ := Aside0.mk (blk_below (g := gb149) (o := .cells #[.string a0_0, .int .i64 a0_1, .int .i64 a0_2, .string a0_3, .int .i64 a0_4] 26 (0, 0)) (z_36) hb); have n1_ := Aside0.mk (below_step (z_37) hb); clear BK149; clear HB; have BK149 := n0_; have HB := n1_; clear n0_ n1_; (try clear hb); (try clear hb2); (try clear hk); (try clear hi)))
      go_meet
      case rel => exact ⟨_, (true), (z_9), H', ⟨z_13⟩, ⟨z_36⟩, ⟨z_37⟩⟩
  case rest =>
    clear HC2
    try clear c2
    try clear p2
    try clear c5
    try clear hcz10_0
    try clear hcz10_1
    try clear hcz10_2
    try clear hcz10_3
    try clear hcz10_4
    try clear hcz7_0
    try clear hcz7_1
    try clear hcz7_2
    try clear hcz7_3
    try clear hcz7_4
    try clear hcz9_0
    try clear hcz9_1
    try clear hcz9_2
    try clear hcz9_3
    try clear hcz9_4
    try clear hfz10_0
    try clear hfz10_1
    try clear hfz10_2
    try clear hfz10_3
    try clear hfz10_4
    try clear hfz7_0
    try clear hfz7_1
    try clear hfz7_2
    try clear hfz7_3
    try clear hfz7_4
    try clear hfz9_0
    try clear hfz9_1
    try clear hfz9_2
    try clear hfz9_3
    try clear hfz9_4
    obtain ⟨kq, x12_1, rfl, HA, HJ1, BK149, HB⟩ := hcut
    cases kq with
    | zero => exact absurd HA.out (by simp [impl_NameOk.j0])
    | succ kj1 =>
      have H := HA.out
      clear HA
      simp only [impl_NameOk.j0] at H
      by_cases c12 : x12_1 = true
      · subst c12
        rw [if_pos rfl] at H
        obtain rfl := Option.some.inj H
        go_wp2
        go_ret
        exact ⟨z_4, z_37⟩
      · replace c12 := Bool.eq_false_iff.mpr c12
        subst c12
        rw [if_neg (show ¬ (false = true) by decide)] at H
        by_cases c13 : a0_1 = 0
        · rw [if_pos c13] at H
          have c13b0 : (a0_1 == 0) = true := beq_iff_eq.mpr c13
          have c13b1 : (a0_1 != 0) = false := bne_eq_false_iff_eq.mpr c13
          clear c13
          by_cases c14 : a0_2 = 0
          · rw [if_pos c14] at H
            have c14b0 : (a0_2 == 0) = true := beq_iff_eq.mpr c14
            have c14b1 : (a0_2 != 0) = false := bne_eq_false_iff_eq.mpr c14
            clear c14
            obtain rfl := Option.some.inj H
            have hcz15_0 : wc.cell? ⟨gb149, 0, none⟩ = some (.string a0_0) := (blk_cell BK149.out 0).trans rfl
            have hcz15_1 : wc.cell? ⟨gb149, 1, none⟩ = some (.int .i64 a0_1) := (blk_cell BK149.out 1).trans rfl
            have hcz15_2 : wc.cell? ⟨gb149, 2, none⟩ = some (.int .i64 a0_2) := (blk_cell BK149.out 2).trans rfl
            have hcz15_3 : wc.cell? ⟨gb149, 3, none⟩ = some (.string a0_3) := (blk_cell BK149.out 3).trans rfl
            have hcz15_4 : wc.cell? ⟨gb149, 4, none⟩ = some (.int .i64 a0_4) := (blk_cell BK149.out 4).trans rfl
            have hfz15_0 := blk_frozen BK149.out 0
            have hfz15_1 := blk_frozen BK149.out 1
            have hfz15_2 := blk_frozen BK149.out 2
            have hfz15_3 := blk_frozen BK149.out 3
            have hfz15_4 := blk_frozen BK149.out 4
            go_wp2
            go_ret
            exact ⟨z_4, z_37⟩
          · rw [if_neg c14] at H
            have c14b0 : (a0_2 == 0) = false := beq_eq_false_iff_ne.mpr c14
            have c14b1 : (a0_2 != 0) = true := bne_iff_ne.mpr c14
            obtain rfl := Option.some.inj H
            have hcz16_0 : wc.cell? ⟨gb149, 0, none⟩ = some (.string a0_0) := (blk_cell BK149.out 0).trans rfl
            have hcz16_1 : wc.cell? ⟨gb149, 1, none⟩ = some (.int .i64 a0_1) := (blk_cell BK149.out 1).trans rfl
            have hcz16_2 : wc.cell? ⟨gb149, 2, none⟩ = some (.int .i64 a0_2) := (blk_cell BK149.out 2).trans rfl
            have hcz16_3 : wc.cell? ⟨gb149, 3, none⟩ = some (.string a0_3) := (blk_cell BK149.out 3).trans rfl
            have hcz16_4 : wc.cell? ⟨gb149, 4, none⟩ = some (.int .i64 a0_4) := (blk_cell BK149.out 4).trans rfl
            have hfz16_0 := blk_frozen BK149.out 0
            have hfz16_1 := blk_frozen BK149.out 1
            have hfz16_2 := blk_frozen BK149.out 2
            have hfz16_3 := blk_frozen BK149.out 3
            have hfz16_4 := blk_frozen BK149.out 4
            go_wp2
            go_ret
            exact ⟨z_4, z_37⟩
        · rw [if_neg c13] at H
          have c13b0 : (a0_1 == 0) = false := beq_eq_false_iff_ne.mpr c13
          have c13b1 : (a0_1 != 0) = true := bne_iff_ne.mpr c13
          by_cases c17 : a0_1 = 1
          · rw [if_pos c17] at H
            have c17b0 : (a0_1 == 1) = true := beq_iff_eq.mpr c17
            have c17b1 : (a0_1 != 1) = false := bne_eq_false_iff_eq.mpr c17
            clear c17
            replace H := Option.bind_eq_some_iff.mp H
            obtain ⟨t152, A180, H⟩ := H
            have A18 := Aside0.mk A180
            clear A180
            by_cases c19 : t152 = true
            · subst c19
              rw [if_pos rfl] at H
              obtain rfl := Option.some.inj H
              have hcz20_0 : wc.cell? ⟨gb149, 0, none⟩ = some (.string a0_0) := (blk_cell BK149.out 0).trans rfl
              have hcz20_1 : wc.cell? ⟨gb149, 1, none⟩ = some (.int .i64 a0_1) := (blk_cell BK149.out 1).trans rfl
              have hcz20_2 : wc.cell? ⟨gb149, 2, none⟩ = some (.int .i64 a0_2) := (blk_cell BK149.out 2).trans rfl
              have hcz20_3 : wc.cell? ⟨gb149, 3, none⟩ = some (.string a0_3) := (blk_cell BK149.out 3).trans rfl
              have hcz20_4 : wc.cell? ⟨gb149, 4, none⟩ = some (.int .i64 a0_4) := (blk_cell BK149.out 4).trans rfl
              have hfz20_0 := blk_frozen BK149.out 0
              have hfz20_1 := blk_frozen BK149.out 1
              have hfz20_2 := blk_frozen BK149.out 2
              have hfz20_3 := blk_frozen BK149.out 3
              have hfz20_4 := blk_frozen BK149.out 4
              go_wp2_with (first | ((with_reducible refine gate_callee (f := 58) rfl ?_); refine goesL_ (some 29) rfl rfl Try.func58 (z_0) rfl #[.int .i64 a0_2] rfl (z_6) ?_; (with_reducible refine (impl_word.calls a0_2 true _ A18.out).mono ?_); rintro e w' ⟨rfl, ⟨nd, rfl⟩⟩; refine ⟨_, rfl, ?_⟩))
              go_ret
              exact ⟨z_4, z_37⟩
            · replace c19 := Bool.eq_false_iff.mpr c19
              subst c19
              rw [if_neg (show ¬ (false = true) by decide)] at H
              obtain rfl := Option.some.inj H
              have hcz21_0 : wc.cell? ⟨gb149, 0, none⟩ = some (.string a0_0) := (blk_cell BK149.out 0).trans rfl
              have hcz21_1 : wc.cell? ⟨gb149, 1, none⟩ = some (.int .i64 a0_1) := (blk_cell BK149.out 1).trans rfl
              have hcz21_2 : wc.cell? ⟨gb149, 2, none⟩ = some (.int .i64 a0_2) := (blk_cell BK149.out 2).trans rfl
              have hcz21_3 : wc.cell? ⟨gb149, 3, none⟩ = some (.string a0_3) := (blk_cell BK149.out 3).trans rfl
              have hcz21_4 : wc.cell? ⟨gb149, 4, none⟩ = some (.int .i64 a0_4) := (blk_cell BK149.out 4).trans rfl
              have hfz21_0 := blk_frozen BK149.out 0
              have hfz21_1 := blk_frozen BK149.out 1
              have hfz21_2 := blk_frozen BK149.out 2
              have hfz21_3 := blk_frozen BK149.out 3
              have hfz21_4 := blk_frozen BK149.out 4
              go_wp2_with (first | ((with_reducible refine gate_callee (f := 58) rfl ?_); refine goesL_ (some 29) rfl rfl Try.func58 (z_0) rfl #[.int .i64 a0_2] rfl (z_6) ?_; (with_reducible refine (impl_word.calls a0_2 false _ A18.out).mono ?_); rintro e w' ⟨rfl, ⟨nd, rfl⟩⟩; refine ⟨_, rfl, ?_⟩))
              go_ret
              exact ⟨z_4, z_37⟩
          · rw [if_neg c17] at H
            have c17b0 : (a0_1 == 1) = false := beq_eq_false_iff_ne.mpr c17
            have c17b1 : (a0_1 != 1) = true := bne_iff_ne.mpr c17
            by_cases c22 : a0_1 = 2
            · rw [if_pos c22] at H
              have c22b0 : (a0_1 == 2) = true := beq_iff_eq.mpr c22
              have c22b1 : (a0_1 != 2) = false := bne_eq_false_iff_eq.mpr c22
              clear c22
              by_cases c23 : a0_2 = 0
              · rw [if_pos c23] at H
                have c23b0 : (a0_2 == 0) = true := beq_iff_eq.mpr c23
                have c23b1 : (a0_2 != 0) = false := bne_eq_false_iff_eq.mpr c23
                clear c23
                replace H := Option.bind_eq_some_iff.mp H
                obtain ⟨t153, A240, H⟩ := H
                have A24 := Aside0.mk A240
                clear A240
                obtain rfl := Option.some.inj H
                have hcz25_0 : wc.cell? ⟨gb149, 0, none⟩ = some (.string a0_0) := (blk_cell BK149.out 0).trans rfl
                have hcz25_1 : wc.cell? ⟨gb149, 1, none⟩ = some (.int .i64 a0_1) := (blk_cell BK149.out 1).trans rfl
                have hcz25_2 : wc.cell? ⟨gb149, 2, none⟩ = some (.int .i64 a0_2) := (blk_cell BK149.out 2).trans rfl
                have hcz25_3 : wc.cell? ⟨gb149, 3, none⟩ = some (.string a0_3) := (blk_cell BK149.out 3).trans rfl
                have hcz25_4 : wc.cell? ⟨gb149, 4, none⟩ = some (.int .i64 a0_4) := (blk_cell BK149.out 4).trans rfl
                have hfz25_0 := blk_frozen BK149.out 0
                have hfz25_1 := blk_frozen BK149.out 1
                have hfz25_2 := blk_frozen BK149.out 2
                have hfz25_3 := blk_frozen BK149.out 3
                have hfz25_4 := blk_frozen BK149.out 4
                go_wp2_with (first | (go_at_call 56; (with_reducible refine (impl_textOk.calls kj1 a0_3 t153 _ A24.out).mono ?_); rintro e w26 ⟨rfl, hb⟩; have n0_ := Aside0.mk (blk_below (g := gb149) (o := .cells #[.string a0_0, .int .i64 a0_1, .int .i64 a0_2, .string a0_3, .int .i64 a0_4] 26 (0, 0)) (z_36) hb); have n1_ := Aside0.mk (below_step (z_37) hb); clear BK149; clear HB; have BK149 := n0_; have HB := n1_; clear n0_ n1_; (try clear hb); (try clear hb2); (try clear hk); (try clear hi)))
                go_ret
                exact ⟨z_4, z_37⟩
              · rw [if_neg c23] at H
                have c23b0 : (a0_2 == 0) = false := beq_eq_false_iff_ne.mpr c23
                have c23b1 : (a0_2 != 0) = true := bne_iff_ne.mpr c23
                obtain rfl := Option.some.inj H
                have hcz27_0 : wc.cell? ⟨gb149, 0, none⟩ = some (.string a0_0) := (blk_cell BK149.out 0).trans rfl
                have hcz27_1 : wc.cell? ⟨gb149, 1, none⟩ = some (.int .i64 a0_1) := (blk_cell BK149.out 1).trans rfl
                have hcz27_2 : wc.cell? ⟨gb149, 2, none⟩ = some (.int .i64 a0_2) := (blk_cell BK149.out 2).trans rfl
                have hcz27_3 : wc.cell? ⟨gb149, 3, none⟩ = some (.string a0_3) := (blk_cell BK149.out 3).trans rfl
                have hcz27_4 : wc.cell? ⟨gb149, 4, none⟩ = some (.int .i64 a0_4) := (blk_cell BK149.out 4).trans rfl
                have hfz27_0 := blk_frozen BK149.out 0
                have hfz27_1 := blk_frozen BK149.out 1
                have hfz27_2 := blk_frozen BK149.out 2
                have hfz27_3 := blk_frozen BK149.out 3
                have hfz27_4 := blk_frozen BK149.out 4
                go_wp2
                go_ret
                exact ⟨z_4, z_37⟩
            · rw [if_neg c22] at H
              have c22b0 : (a0_1 == 2) = false := beq_eq_false_iff_ne.mpr c22
              have c22b1 : (a0_1 != 2) = true := bne_iff_ne.mpr c22
              obtain rfl := Option.some.inj H
              have hcz28_0 : wc.cell? ⟨gb149, 0, none⟩ = some (.string a0_0) := (blk_cell BK149.out 0).trans rfl
              have hcz28_1 : wc.cell? ⟨gb149, 1, none⟩ = some (.int .i64 a0_1) := (blk_cell BK149.out 1).trans rfl
              have hcz28_2 : wc.cell? ⟨gb149, 2, none⟩ = some (.int .i64 a0_2) := (blk_cell BK149.out 2).trans rfl
              have hcz28_3 : wc.cell? ⟨gb149, 3, none⟩ = some (.string a0_3) := (blk_cell BK149.out 3).trans rfl
              have hcz28_4 : wc.cell? ⟨gb149, 4, none⟩ = some (.int .i64 a0_4) := (blk_cell BK149.out 4).trans rfl
              have hfz28_0 := blk_frozen BK149.out 0
              have hfz28_1 := blk_frozen BK149.out 1
              have hfz28_2 := blk_frozen BK149.out 2
              have hfz28_3 := blk_frozen BK149.out 3
              have hfz28_4 := blk_frozen BK149.out 4
              go_wp2
              go_ret
              exact ⟨z_4, z_37⟩

-- NOT PRINTED: function 82 (impl_Kept)

/-! ### impl_keptAt: function 66 -/
def impl_keptAt.l0 : Nat → List (S83) → ByteArray → Int → Option (Int)
  | 0, _, _, _ => none
  | k + 1, x0, x1, x5 => if x5 < (x0.length : Int) then (if 0 ≤ x5 then (if ((rd_T83 x0 x5).f0.f0).toList = x1.toList then (some x5) else (impl_keptAt.l0 k x0 x1 (wrap64 (x5 + 1)))) else (none)) else (some (-1))
def impl_keptAt.f (k : Nat) (l0 : List (S83)) (a1 : ByteArray) : Option (Int) := impl_keptAt.l0 k l0 a1 0
theorem impl_keptAt.mono_l : ∀ k, (∀ y0 y1 y2, LeO (impl_keptAt.l0 k y0 y1 y2) (impl_keptAt.l0 (k + 1) y0 y1 y2))
  | 0 => fun _ _ _ r h => by simp [impl_keptAt.l0] at h
  | k + 1 => by
    have ih0 := impl_keptAt.mono_l k
    · intro y0 y1 y2
      unfold impl_keptAt.l0
      repeat' first
      | (with_reducible exact ih0 _ _ _)
      | (with_reducible exact LeO.refl _)
      | (with_reducible exact LeO.none _)
      | (with_reducible refine LeO.ite ?_ ?_)
      | (with_reducible refine LeO.bind ?_ (fun _ => ?_))
      | exact ih0 _ _ _
      | exact LeO.none _
      | refine LeO.ite ?_ ?_
      | refine LeO.bind ?_ (fun _ => ?_)
theorem impl_keptAt.mono : ∀ a0 a1 k, LeO (impl_keptAt.f k a0 a1) (impl_keptAt.f (k + 1) a0 a1) := by
  intro a0 a1 k
  have ih0 := impl_keptAt.mono_l k
  unfold impl_keptAt.f
  repeat' first
      | (with_reducible exact ih0 _ _ _)
      | (with_reducible exact LeO.refl _)
      | (with_reducible exact LeO.none _)
      | (with_reducible refine LeO.ite ?_ ?_)
      | (with_reducible refine LeO.bind ?_ (fun _ => ?_))
      | exact ih0 _ _ _
      | exact LeO.none _
      | refine LeO.ite ?_ ?_
      | refine LeO.bind ?_ (fun _ => ?_)
set_option maxHeartbeats 8000000 in
set_option maxRecDepth 100000 in
theorem lam_83.calls (B : Nat) (s : ByteArray) (x : S83) (w : World) (hc : w.cell? ⟨B, 0, none⟩ = some (.string s)) (hB : B < w.heap.size) :
    Calls Try.prog 83 #[.agg #[.string x.f0.f0, .int .i64 x.f0.f1, .int .i64 x.f0.f2, .string x.f0.f3, .int .i64 x.f0.f4, .int .i64 x.f1], .pointer (some ⟨B, 0, none⟩)] w fun e w' => e = .returned (.bool ((x).f0.f0.toList == s.toList)) ∧ Below w.heap.size w w' := by
  have hne : B ≠ w.heap.size := by omega
  go_enter Try.func83, Try.ntmps83
  go_wp2
  all_goals (go_ret; exact ⟨by simp_all, (Below.refl _ w).alloc (Nat.le_refl _) _⟩)
/-- The first place of a text; -1 where it is not. -/
def At83 (l : List S83) (s : ByteArray) (r : Int) : Prop := (∃ j : Nat, j < l.length ∧ r = j ∧ ((rd_T83 l j).f0.f0.toList == s.toList) = true ∧ ∀ i : Nat, i < j → ((rd_T83 l i).f0.f0.toList == s.toList) = false) ∨ (r = -1 ∧ ∀ i : Nat, i < l.length → ((rd_T83 l i).f0.f0.toList == s.toList) = false)
set_option maxHeartbeats 8000000 in
set_option maxRecDepth 100000 in
theorem idx_82.calls (B : Nat) (s : ByteArray) (A : Option Addr) (c : Nat) (l : List S83) (r : Int) (w : World) (hr : Kd.C k83 w A l.length l) (hc : w.cell? ⟨B, 0, none⟩ = some (.string s)) (hB : B < w.heap.size) (hf : At83 l s r) :
    Calls Try.prog 82 #[.slice A l.length c, .func (.func 83) #[] #[.pointer (some ⟨B, 0, none⟩)]] w fun e w' => e = .returned (.int .i64 r) ∧ Below w.heap.size w w' := by
  have HR := Aside0.mk hr
  have HM := Aside0.mk (Kd.C_max hr)
  have HC := Aside0.mk hc
  have HF := Aside0.mk hf
  have HL := Aside0.mk hB
  clear hr hc hf hB
  go_enter Try.func82, Try.ntmps82
  go_wp2
  go_loopg [5, 8] l.length (fun gg _ s8 wr => ∃ kk : Nat, s8 = .int .i64 kk ∧ kk ≤ l.length ∧ l.length - kk ≤ gg ∧ Aside0 (Below w.heap.size w wr) ∧ Aside0 (∀ j : Nat, j < kk → ((rd_T83 l j).f0.f0.toList == s.toList) = false))
  case atStart => exact ⟨0, rfl, Nat.zero_le _, by omega, ⟨Below.refl _ w⟩, ⟨fun j hj => absurd hj (Nat.not_lt_zero _)⟩⟩
  case round =>
    obtain ⟨kk, rfl, hkk, hg, HB, HN⟩ := hrel
    by_cases hlt : kk < l.length
    · have c4b0 : decide ((kk : Int) < (l.length : Int)) = true := decide_eq_true (by omega)
      have p_ : 0 ≤ (kk : Int) := by omega
      have q_ : (kk : Int) < (l.length : Int) := by omega
      obtain ⟨ad_, e_, hx_0, hx_1, hx_2, hx_3, hx_4, hx_5⟩ := at_T83 HR.out kk p_ q_
      cases e_
      simp only [Int.toNat_natCast] at hx_0 hx_1 hx_2 hx_3 hx_4 hx_5
      replace hx_0 := (HB.out.cell (World.block_lt_of_cell? w _ hx_0)).trans hx_0
      replace hx_1 := (HB.out.cell (World.block_lt_of_cell? w _ hx_1)).trans hx_1
      replace hx_2 := (HB.out.cell (World.block_lt_of_cell? w _ hx_2)).trans hx_2
      replace hx_3 := (HB.out.cell (World.block_lt_of_cell? w _ hx_3)).trans hx_3
      replace hx_4 := (HB.out.cell (World.block_lt_of_cell? w _ hx_4)).trans hx_4
      replace hx_5 := (HB.out.cell (World.block_lt_of_cell? w _ hx_5)).trans hx_5
      have hcall := lam_83.calls B s (rd_T83 l kk) wr ((HB.out.cell HL.out).trans HC.out) (Nat.lt_of_lt_of_le HL.out HB.out.size)
      cases hq : ((rd_T83 l kk).f0.f0.toList == s.toList) with
      | true =>
        rw [hq] at hcall
        have HQ := Aside0.mk hq
        clear hq
        go_wp2_with (go_at_call 83; refine hcall.mono ?_; rintro e w' ⟨rfl, hb'⟩)
        go_ret
        refine ⟨?_, below_then HB.out HB.out.size hb'⟩
        rcases HF.out with ⟨j, h1, rfl, h3, h4⟩ | ⟨rfl, h2⟩
        · have : j = kk := by
            rcases Nat.lt_trichotomy j kk with h | h | h
            · have := HN.out j h; rw [this] at h3; cases h3
            · exact h
            · have := h4 kk h; rw [HQ.out] at this; cases this
          subst this; rfl
        · have := h2 kk hlt; rw [HQ.out] at this; cases this
      | false =>
        rw [hq] at hcall
        have HQ := Aside0.mk hq
        clear hq
        go_wp2_with (go_at_call 83; refine hcall.mono ?_; rintro e w' ⟨rfl, hb'⟩)
        go_roundg (l.length - (kk + 1))
        case measure => omega
        case rel =>
          have hm := HM.out
          have ew : wrap64 ((kk : Int) + 1) = ((kk + 1 : Nat) : Int) := by unfold wrap64; omega
          refine ⟨kk + 1, (by rw [ew]), by omega, by omega, ⟨below_then HB.out HB.out.size hb'⟩, ⟨fun j hj => ?_⟩⟩
          by_cases e : j = kk
          · rw [e]; exact HQ.out
          · exact HN.out j (by omega)
    · have c4b0 : decide ((kk : Int) < (l.length : Int)) = false := decide_eq_false (by omega)
      have hk : kk = l.length := by omega
      go_wp2
      go_ret
      refine ⟨?_, HB.out⟩
      rcases HF.out with ⟨j, h1, rfl, h3, h4⟩ | ⟨rfl, h2⟩
      · have := HN.out j (by omega); rw [this] at h3; cases h3
      · rfl
theorem impl_keptAt_tells {l : List S83} {s : ByteArray} (hm : l.length ≤ 9223372036854775807) : ∀ (k i : Nat) (r : Int), i ≤ l.length → (∀ q : Nat, q < i → ((rd_T83 l q).f0.f0.toList == s.toList) = false) → impl_keptAt.l0 k l s i = some r →
    (∃ j : Nat, j < l.length ∧ At83 l s j ∧ r = (j : Int)) ∨ (At83 l s (-1) ∧ r = -1) := by
  intro k
  induction k with
  | zero => intro i r _ _ h; simp [impl_keptAt.l0] at h
  | succ k ih =>
    intro i r hi hn h
    simp only [impl_keptAt.l0] at h
    by_cases c1 : (i : Int) < (l.length : Int)
    · rw [if_pos c1, if_pos (by omega)] at h
      by_cases c2 : (rd_T83 l i).f0.f0.toList = s.toList
      · rw [if_pos c2] at h
        exact Or.inl ⟨i, by omega, Or.inl ⟨i, by omega, rfl, beq_iff_eq.mpr c2, hn⟩, (Option.some.inj h).symm⟩
      · rw [if_neg c2, show wrap64 ((i : Int) + 1) = ((i + 1 : Nat) : Int) by unfold wrap64; omega] at h
        refine ih (i + 1) r (by omega) (fun q hq => ?_) h
        by_cases e : q = i
        · subst e; exact beq_eq_false_iff_ne.mpr c2
        · exact hn q (by omega)
    · rw [if_neg c1] at h
      exact Or.inr ⟨Or.inr ⟨rfl, fun q hq => hn q (by omega)⟩, (Option.some.inj h).symm⟩
set_option maxHeartbeats 8000000 in
set_option maxRecDepth 100000 in
theorem impl_keptAt.calls (k : Nat) (A0 : Option Addr) (c0 : Nat) (l0 : List (S83)) (a1 : ByteArray) (r : Int) (w : World) (hr0 : Kd.C k83 w A0 l0.length l0) (hc0 : l0.length ≤ c0) (h : impl_keptAt.f k l0 a1 = some r) :
    Calls Try.prog 66 #[.slice A0 l0.length c0, .string a1] w fun e w' => e = .returned (.int .i64 r) ∧ Below w.heap.size w w' := by
  have hu_ := Try.underlying83
  have HR0 := Aside0.mk hr0
  have HB := Aside0.mk (Below.refl w.heap.size w)
  have HA := Aside0.mk (show At83 l0 a1 r by
    rcases impl_keptAt_tells (Kd.C_max hr0) k 0 _ (Nat.zero_le _) (fun q hq => absurd hq (Nat.not_lt_zero _)) h with ⟨j, _, hat, he⟩ | ⟨hat, he⟩
    · rw [he]; exact hat
    · rw [he]; exact hat)
  clear hr0 hc0 h
  go_enter Try.func66, Try.ntmps66
  go_wp2_with (first | ((with_reducible refine gate_dst (N := 3) rfl ?_); refine box_event ?hg (N := 3) ?hd (cs := #[.string a1]) (t := 9) ?hr ?_; (case hd => rfl); (case hg => rfl); (case hr => first | (go_simp; done) | (go_simp; rfl)); intro gb8001 hg w8001 hbox hb; have n0_ := Aside0.mk (below_step HB.out hb); have n1_ := Aside0.mk hbox; clear HB; have HB := n0_; have BK8001 := n1_; clear n0_ n1_ hb hbox hg) | (go_at_call 82; (with_reducible refine (idx_82.calls gb8001 a1 _ c0 l0 r _ (Kd.C_below HR0.out HB.out) ((blk_cell BK8001.out 0).trans rfl) (blk_lt BK8001.out) HA.out).mono ?_); rintro e w9 ⟨rfl, hb⟩; have n0_ := Aside0.mk (below_step HB.out hb); clear HB BK8001; have HB := n0_; clear n0_ hb))
  go_ret
  exact ⟨by first | rfl | (simp [*]; done), by repeat (first | (with_reducible first | exact HB.out | apply below_alloc | apply pw_below_drewN | apply below_drew1) | exact HB.out)⟩

