/- What the Go functions that FnNameAsk reaches come to, walked step by step; there is no condition beyond those each statement names. -/
import Derived.Test.YtmgnmgobibpjjaaGFnNameAskx0
import Derived.Test.YtmgnmgobibpjjaaGFnNameAskx7
namespace Go.Proofs.Ytmgnmgobibpjjaa.GFnNameAsk
open Go.RowKit Go.Proofs.YtmgnmgobibpjjaaU.PrintWords Go.Proofs.YtmgnmgobibpjjaaU.PrintLast Go.Proofs.YtmgnmgobibpjjaaU.PrintMore
open Bool renaming true → T, false → F
attribute [local go_sem] max2_int min2_int max_two min_two max_three min_three max_four min_four   -- for this text's walks alone
set_option linter.unusedVariables false
set_option linter.unusedSimpArgs false

/-! ### spec_l20Name: function 59 -/
def spec_l20Name.j0 : Nat → Int → List Int → Int → ByteArray → Int → Int → ByteArray → Int → Option (ByteArray × Int × Int × ByteArray × Int × Int)
  | 0, _, _, _, _, _, _, _, _ => none
  | k + 1, x1, x1000, x1001, x183000, x183001, x183002, x183003, x183004 => (spec_l20Rd_odd.f k x1000 x1001 x1).bind fun bt187 => (if bt187.1 = true then ((spec_l20Rd_pick.f k x1000 bt187.2 4).bind fun bt189 => (if bt189.1 = 0 then ((some (([(⟨#[]⟩ : ByteArray), (⟨#[65]⟩ : ByteArray), (⟨#[97, 98, 99, 100, 101, 102, 103, 104, 105, 106, 107, 108, 109]⟩ : ByteArray)] : List ByteArray) : List ByteArray)).bind fun y191 => ((spec_l20Rd_pick.f k x1000 bt189.2 3).bind fun bt194 => (if 0 ≤ bt194.1 then (if bt194.1 < (y191.length : Int) then (some (rdOf ByteArray.empty y191 bt194.1, x183001, x183002, x183003, x183004, bt194.2)) else (none)) else (none)))) else (if bt189.1 = 1 then ((spec_l20Rd_pick.f k x1000 bt189.2 2).bind fun bt197 => (some (x183000, x183001, x183002, x183003, wrap64 (bt197.1 * 51), bt197.2))) else (if bt189.1 = 2 then ((spec_l20Rd_pick.f k x1000 bt189.2 5).bind fun bt199 => (some (x183000, bt199.1, x183002, x183003, x183004, bt199.2))) else (some (x183000, x183001, x183002, (⟨#[120, 32, 121]⟩ : ByteArray), x183004, bt189.2)))))) else (some (x183000, x183001, x183002, x183003, x183004, bt187.2)))
def spec_l20Name.f (k : Nat) (s0_0 : List Int) (s0_1 : Int) (a1 : Int) : Option (ByteArray × Int × Int × ByteArray × Int × Int) := (spec_l20Text.f k s0_0 s0_1).bind fun bt176 => ((spec_l20Rd_pick.f k s0_0 bt176.2 9).bind fun bt178 => ((spec_l20Rd_pick.f k s0_0 bt178.2 20).bind fun bt180 => ((spec_l20Rd_pick.f k s0_0 bt180.2 2).bind fun bt183 => (if bt183.1 = 0 then ((spec_l20Text.f k s0_0 bt183.2).bind fun bt185 => (spec_l20Name.j0 k a1 s0_0 bt185.2 bt176.1 2 0 bt185.1 (wrap64 (1 + bt180.1)))) else (spec_l20Name.j0 k a1 s0_0 bt183.2 bt176.1 1 bt178.1 (⟨#[]⟩ : ByteArray) (wrap64 (1 + bt180.1)))))))
theorem spec_l20Name.mono_l : ∀ k, (∀ y0 y1 y2 y3 y4 y5 y6 y7, LeO (spec_l20Name.j0 k y0 y1 y2 y3 y4 y5 y6 y7) (spec_l20Name.j0 (k + 1) y0 y1 y2 y3 y4 y5 y6 y7))
  | 0 => fun _ _ _ _ _ _ _ _ r h => by simp [spec_l20Name.j0] at h
  | k + 1 => by
    have ih0 := spec_l20Name.mono_l k
    · intro y0 y1 y2 y3 y4 y5 y6 y7
      unfold spec_l20Name.j0
      repeat' first
      | (with_reducible exact ih0 _ _ _ _ _ _ _ _)
      | (with_reducible exact spec_l20Rd_odd.mono _ _ _ _)
      | (with_reducible exact spec_l20Rd_pick.mono _ _ _ _)
      | (with_reducible exact spec_l20Text.mono _ _ _)
      | (with_reducible exact LeO.refl _)
      | (with_reducible exact LeO.none _)
      | (with_reducible refine LeO.ite ?_ ?_)
      | (with_reducible refine LeO.bind ?_ (fun _ => ?_))
      | exact ih0 _ _ _ _ _ _ _ _
      | exact spec_l20Rd_odd.mono _ _ _ _
      | exact spec_l20Rd_pick.mono _ _ _ _
      | exact spec_l20Text.mono _ _ _
      | exact LeO.none _
      | refine LeO.ite ?_ ?_
      | refine LeO.bind ?_ (fun _ => ?_)
theorem spec_l20Name.mono : ∀ a0 a1 a2 k, LeO (spec_l20Name.f k a0 a1 a2) (spec_l20Name.f (k + 1) a0 a1 a2) := by
  intro a0 a1 a2 k
  have ih0 := spec_l20Name.mono_l k
  unfold spec_l20Name.f
  repeat' first
      | (with_reducible exact ih0 _ _ _ _ _ _ _ _)
      | (with_reducible exact spec_l20Rd_odd.mono _ _ _ _)
      | (with_reducible exact spec_l20Rd_pick.mono _ _ _ _)
      | (with_reducible exact spec_l20Text.mono _ _ _)
      | (with_reducible exact LeO.refl _)
      | (with_reducible exact LeO.none _)
      | (with_reducible refine LeO.ite ?_ ?_)
      | (with_reducible refine LeO.bind ?_ (fun _ => ?_))
      | exact ih0 _ _ _ _ _ _ _ _
      | exact spec_l20Rd_odd.mono _ _ _ _
      | exact spec_l20Rd_pick.mono _ _ _ _
      | exact spec_l20Text.mono _ _ _
      | exact LeO.none _
      | refine LeO.ite ?_ ?_
      | refine LeO.bind ?_ (fun _ => ?_)
set_option maxHeartbeats 8000000 in
set_option maxRecDepth 100000 in
theorem spec_l20Name.calls (k : Nat) (g : Nat) (s0_0 : List Int) (s0_1 : Int) (a1 : Int) (r1 : ByteArray) (r2 : Int) (r3 : Int) (r4 : ByteArray) (r5 : Int) (r6 : Int) (w0 w : World) (hI : IsS96 w0 w g s0_0 s0_1) (hB : Below w0.heap.size w0 w) (h : spec_l20Name.f k s0_0 s0_1 a1 = some (r1, r2, r3, r4, r5, r6)) :
    Calls Try.prog 59 #[.pointer (some ⟨g, 0, none⟩), .int .i64 a1] w fun e w' => e = .returned (.agg #[.string r1, .int .i64 r2, .int .i64 r3, .string r4, .int .i64 r5]) ∧ IsS96 w0 w' g s0_0 r6 ∧ Below w0.heap.size w0 w' ∧ KeepBut w w' g none := by
  have hu26 := Try.underlying26
  have HI0 := Aside0.mk hI
  have HK := Aside0.mk (KeepBut.refl w g none)
  have HL := Aside0.mk hB.size
  clear hI
  have HW0 := Aside0.mk hB.size
  have HB := Aside0.mk hB
  clear hB
  have H : ((spec_l20Text.f k s0_0 s0_1).bind fun bt176 => ((spec_l20Rd_pick.f k s0_0 bt176.2 9).bind fun bt178 => ((spec_l20Rd_pick.f k s0_0 bt178.2 20).bind fun bt180 => ((spec_l20Rd_pick.f k s0_0 bt180.2 2).bind fun bt183 => (if bt183.1 = 0 then ((spec_l20Text.f k s0_0 bt183.2).bind fun bt185 => (spec_l20Name.j0 k a1 s0_0 bt185.2 bt176.1 2 0 bt185.1 (wrap64 (1 + bt180.1)))) else (spec_l20Name.j0 k a1 s0_0 bt183.2 bt176.1 1 bt178.1 (⟨#[]⟩ : ByteArray) (wrap64 (1 + bt180.1)))))))) = some (r1, r2, r3, r4, r5, r6) := h
  clear h
  replace H := Option.bind_eq_some_iff.mp H
  obtain ⟨⟨t176, t177⟩, A30, H⟩ := H
  replace H : ((spec_l20Rd_pick.f k s0_0 t177 9).bind fun bt178 => ((spec_l20Rd_pick.f k s0_0 bt178.2 20).bind fun bt180 => ((spec_l20Rd_pick.f k s0_0 bt180.2 2).bind fun bt183 => (if bt183.1 = 0 then ((spec_l20Text.f k s0_0 bt183.2).bind fun bt185 => (spec_l20Name.j0 k a1 s0_0 bt185.2 t176 2 0 bt185.1 (wrap64 (1 + bt180.1)))) else (spec_l20Name.j0 k a1 s0_0 bt183.2 t176 1 bt178.1 (⟨#[]⟩ : ByteArray) (wrap64 (1 + bt180.1))))))) = some (r1, r2, r3, r4, r5, r6) := H
  have A3 := Aside0.mk A30
  clear A30
  replace H := Option.bind_eq_some_iff.mp H
  obtain ⟨⟨t178, t179⟩, A40, H⟩ := H
  replace H : ((spec_l20Rd_pick.f k s0_0 t179 20).bind fun bt180 => ((spec_l20Rd_pick.f k s0_0 bt180.2 2).bind fun bt183 => (if bt183.1 = 0 then ((spec_l20Text.f k s0_0 bt183.2).bind fun bt185 => (spec_l20Name.j0 k a1 s0_0 bt185.2 t176 2 0 bt185.1 (wrap64 (1 + bt180.1)))) else (spec_l20Name.j0 k a1 s0_0 bt183.2 t176 1 t178 (⟨#[]⟩ : ByteArray) (wrap64 (1 + bt180.1)))))) = some (r1, r2, r3, r4, r5, r6) := H
  have A4 := Aside0.mk A40
  clear A40
  replace H := Option.bind_eq_some_iff.mp H
  obtain ⟨⟨t180, t181⟩, A50, H⟩ := H
  replace H : ((spec_l20Rd_pick.f k s0_0 t181 2).bind fun bt183 => (if bt183.1 = 0 then ((spec_l20Text.f k s0_0 bt183.2).bind fun bt185 => (spec_l20Name.j0 k a1 s0_0 bt185.2 t176 2 0 bt185.1 (wrap64 (1 + t180)))) else (spec_l20Name.j0 k a1 s0_0 bt183.2 t176 1 t178 (⟨#[]⟩ : ByteArray) (wrap64 (1 + t180))))) = some (r1, r2, r3, r4, r5, r6) := H
  have A5 := Aside0.mk A50
  clear A50
  replace H := Option.bind_eq_some_iff.mp H
  obtain ⟨⟨t183, t184⟩, A60, H⟩ := H
  replace H : (if t183 = 0 then ((spec_l20Text.f k s0_0 t184).bind fun bt185 => (spec_l20Name.j0 k a1 s0_0 bt185.2 t176 2 0 bt185.1 (wrap64 (1 + t180)))) else (spec_l20Name.j0 k a1 s0_0 t184 t176 1 t178 (⟨#[]⟩ : ByteArray) (wrap64 (1 + t180)))) = some (r1, r2, r3, r4, r5, r6) := H
  have A6 := Aside0.mk A60
  clear A60
  have HC7 := Aside0.mk H
  clear H
  go_enter Try.func59, Try.ntmps59
  go_upto_if 16 with (first | ((with_reducible refine gate_dst (N := 4) rfl ?_); refine box_event ?hg (N := 4) ?hd (cs := #[.string (⟨#[]⟩ : ByteArray), .int .i64 0, .int .i64 0, .string (⟨#[]⟩ : ByteArray), .int .i64 0]) (t := 26) ?hr ?_; (case hd => rfl); (case hg => rfl); (case hr => exact z_11); intro gb175 hg w8 hbox hb; have n0_ := Aside0.mk (IsS96.below (z_29) hb); have n1_ := Aside0.mk (KeepBut.trans (z_30) (KeepBut.of_below hb g none) (.inl rfl)); have n2_ := Aside0.mk (below_step (z_31) hb); have n3_ := Aside0.mk (hbox); have n4_ := Aside0.mk ((z_32 : w.heap.size ≤ gb175)); have n5_ := Aside0.mk ((Nat.le_trans HW0.out (z_32 : w.heap.size ≤ gb175) : w0.heap.size ≤ gb175)); have n6_ := Aside0.mk ((by rw [hg]; exact Nat.ne_of_lt (IsS96.lt (show IsS96 w0 _ g s0_0 s0_1 from z_29)) : g ≠ gb175)); have n7_ := Aside0.mk ((by rw [hg]; exact Nat.ne_of_gt (IsS96.lt (show IsS96 w0 _ g s0_0 s0_1 from z_29)) : gb175 ≠ g)); clear HI0; clear HK; clear HB; have HI0 := n0_; have HK := n1_; have HB := n2_; have BK175 := n3_; have GW175 := n4_; have GE175 := n5_; have NB0_175 := n6_; have NB175_0 := n7_; clear n0_ n1_ n2_ n3_ n4_ n5_ n6_ n7_; clear hb hbox hg) | ((with_reducible refine gate_callee (f := 68) rfl ?_); refine goesL_ (some 7) rfl rfl Try.func68 (z_0) rfl #[.pointer (some ⟨g, 0, none⟩)] rfl (z_10) ?_; (with_reducible refine (spec_l20Text.calls k g s0_0 s0_1 t176 t177 w0 _ ?side1 ?side2 A3.out).mono ?_); (case side1 => exact z_33); (case side2 => exact z_34); rintro e w9 ⟨rfl, hi, hb, hk⟩; refine ⟨_, rfl, ?_⟩; have n0_ := Aside0.mk (KeepBut.blk hk (g' := gb175) (o := .cells #[.string (⟨#[]⟩ : ByteArray), .int .i64 0, .int .i64 0, .string (⟨#[]⟩ : ByteArray), .int .i64 0] 26 (0, 0)) (z_35) NB175_0.out (z_9)); have n1_ := Aside0.mk (KeepBut.trans (z_36) hk (.inl rfl)); have n2_ := Aside0.mk (hb); have n3_ := Aside0.mk (hi); clear BK175; clear HK; clear HB; clear HI0; have BK175 := n0_; have HK := n1_; have HB := n2_; have HI0 := n3_; clear n0_ n1_ n2_ n3_; (try clear hb); (try clear hb2); (try clear hk); (try clear hi)) | ((with_reducible refine gate_callee (f := 69) rfl ?_); refine goesL_ (some 9) rfl rfl Try.func69 (z_0) rfl #[.pointer (some ⟨g, 0, none⟩), .int .i64 9] rfl (z_10) ?_; (with_reducible refine (spec_l20Rd_pick.calls k g s0_0 t177 9 t178 t179 w0 _ ?side1 ?side2 A4.out).mono ?_); (case side1 => exact z_33); (case side2 => exact z_34); rintro e w10 ⟨rfl, hi, hb, hk⟩; refine ⟨_, rfl, ?_⟩; have n0_ := Aside0.mk (KeepBut.blk hk (g' := gb175) (o := .cells #[.string (⟨#[]⟩ : ByteArray), .int .i64 0, .int .i64 0, .string (⟨#[]⟩ : ByteArray), .int .i64 0] 26 (0, 0)) (z_35) NB175_0.out (z_9)); have n1_ := Aside0.mk (KeepBut.trans (z_36) hk (.inl rfl)); have n2_ := Aside0.mk (hb); have n3_ := Aside0.mk (hi); clear BK175; clear HK; clear HB; clear HI0; have BK175 := n0_; have HK := n1_; have HB := n2_; have HI0 := n3_; clear n0_ n1_ n2_ n3_; (try clear hb); (try clear hb2); (try clear hk); (try clear hi)) | ((with_reducible refine gate_callee (f := 69) rfl ?_); refine goesL_ (some 11) rfl rfl Try.func69 (z_0) rfl #[.pointer (some ⟨g, 0, none⟩), .int .i64 20] rfl (z_10) ?_; (with_reducible refine (spec_l20Rd_pick.calls k g s0_0 t179 20 t180 t181 w0 _ ?side1 ?side2 A5.out).mono ?_); (case side1 => exact z_33); (case side2 => exact z_34); rintro e w11 ⟨rfl, hi, hb, hk⟩; refine ⟨_, rfl, ?_⟩; have n0_ := Aside0.mk (KeepBut.blk hk (g' := gb175) (o := .cells #[.string (⟨#[]⟩ : ByteArray), .int .i64 0, .int .i64 0, .string (⟨#[]⟩ : ByteArray), .int .i64 0] 26 (0, 0)) (z_35) NB175_0.out (z_9)); have n1_ := Aside0.mk (KeepBut.trans (z_36) hk (.inl rfl)); have n2_ := Aside0.mk (hb); have n3_ := Aside0.mk (hi); clear BK175; clear HK; clear HB; clear HI0; have BK175 := n0_; have HK := n1_; have HB := n2_; have HI0 := n3_; clear n0_ n1_ n2_ n3_; (try clear hb); (try clear hb2); (try clear hk); (try clear hi)) | ((with_reducible refine gate_dst (N := 5) rfl ?_); refine box_event ?hg (N := 5) ?hd (cs := #[.string (⟨#[]⟩ : ByteArray), .int .i64 0, .int .i64 0, .string (⟨#[]⟩ : ByteArray), .int .i64 0]) (t := 26) ?hr ?_; (case hd => rfl); (case hg => rfl); (case hr => exact z_11); intro gb182 hg w12 hbox hb; have n0_ := Aside0.mk (IsS96.below (z_33) hb); have n1_ := Aside0.mk (blk_below (g := gb175) (o := .cells #[.string (⟨#[]⟩ : ByteArray), .int .i64 0, .int .i64 0, .string (⟨#[]⟩ : ByteArray), .int .i64 0] 26 (0, 0)) (z_35) hb); have n2_ := Aside0.mk (KeepBut.trans (z_36) (KeepBut.of_below hb g none) (.inl rfl)); have n3_ := Aside0.mk (below_step (z_34) hb); have n4_ := Aside0.mk (hbox); have n5_ := Aside0.mk ((z_37 : w.heap.size ≤ gb182)); have n6_ := Aside0.mk ((Nat.le_trans HW0.out (z_37 : w.heap.size ≤ gb182) : w0.heap.size ≤ gb182)); have n7_ := Aside0.mk ((by rw [hg]; exact Nat.ne_of_lt (blk_lt (g := gb175) (o := .cells #[.string (⟨#[]⟩ : ByteArray), .int .i64 0, .int .i64 0, .string (⟨#[]⟩ : ByteArray), .int .i64 0] 26 (0, 0)) (z_35)) : gb175 ≠ gb182)); have n8_ := Aside0.mk ((by rw [hg]; exact Nat.ne_of_gt (blk_lt (g := gb175) (o := .cells #[.string (⟨#[]⟩ : ByteArray), .int .i64 0, .int .i64 0, .string (⟨#[]⟩ : ByteArray), .int .i64 0] 26 (0, 0)) (z_35)) : gb182 ≠ gb175)); have n9_ := Aside0.mk ((by rw [hg]; exact Nat.ne_of_lt (IsS96.lt (show IsS96 w0 _ g s0_0 t181 from z_33)) : g ≠ gb182)); have n10_ := Aside0.mk ((by rw [hg]; exact Nat.ne_of_gt (IsS96.lt (show IsS96 w0 _ g s0_0 t181 from z_33)) : gb182 ≠ g)); clear HI0; clear BK175; clear HK; clear HB; have HI0 := n0_; have BK175 := n1_; have HK := n2_; have HB := n3_; have BK182 := n4_; have GW182 := n5_; have GE182 := n6_; have NB175_182 := n7_; have NB182_175 := n8_; have NB0_182 := n9_; have NB182_0 := n10_; clear n0_ n1_ n2_ n3_ n4_ n5_ n6_ n7_ n8_ n9_ n10_; clear hb hbox hg; have hnb13 := NB182_175.out; have hnc13 := NB175_182.out; have hnb14 := NB182_0.out; have hnc14 := NB0_182.out; have hcz15_0 : w12.cell? ⟨gb182, 0, none⟩ = some (.string (⟨#[]⟩ : ByteArray)) := (blk_cell BK182.out 0).trans rfl; have hcz15_1 : w12.cell? ⟨gb182, 1, none⟩ = some (.int .i64 0) := (blk_cell BK182.out 1).trans rfl; have hcz15_2 : w12.cell? ⟨gb182, 2, none⟩ = some (.int .i64 0) := (blk_cell BK182.out 2).trans rfl; have hcz15_3 : w12.cell? ⟨gb182, 3, none⟩ = some (.string (⟨#[]⟩ : ByteArray)) := (blk_cell BK182.out 3).trans rfl; have hcz15_4 : w12.cell? ⟨gb182, 4, none⟩ = some (.int .i64 0) := (blk_cell BK182.out 4).trans rfl; have hfz15_0 := blk_frozen BK182.out 0; have hfz15_1 := blk_frozen BK182.out 1; have hfz15_2 := blk_frozen BK182.out 2; have hfz15_3 := blk_frozen BK182.out 3; have hfz15_4 := blk_frozen BK182.out 4) | ((with_reducible refine gate_callee (f := 69) rfl ?_); refine goesL_ (some 15) rfl rfl Try.func69 (z_0) rfl #[.pointer (some ⟨g, 0, none⟩), .int .i64 2] rfl (z_10) ?_; (with_reducible refine (spec_l20Rd_pick.calls k g s0_0 t181 2 t183 t184 w0 _ ?side1 ?side2 A6.out).mono ?_); (case side1 => exact z_38); (case side2 => exact z_39); rintro e w16 ⟨rfl, hi, hb, hk⟩; refine ⟨_, rfl, ?_⟩; have n0_ := Aside0.mk (KeepBut.blk hk (g' := gb175) (o := .cells #[.string (⟨#[]⟩ : ByteArray), .int .i64 0, .int .i64 0, .string (⟨#[]⟩ : ByteArray), .int .i64 0] 26 (0, 0)) (by (with_reducible repeat (first | refine blk_drewN ?_ _ | refine blk_drew ?_ | refine blk_alloc ?_ _)); refine blk_far ?_ NB175_182.out _; (with_reducible repeat (first | refine blk_drewN ?_ _ | refine blk_drew ?_ | refine blk_alloc ?_ _)); refine blk_far ?_ NB175_182.out _; (with_reducible repeat (first | refine blk_drewN ?_ _ | refine blk_drew ?_ | refine blk_alloc ?_ _)); refine blk_far ?_ NB175_182.out _; (with_reducible repeat (first | refine blk_drewN ?_ _ | refine blk_drew ?_ | refine blk_alloc ?_ _)); refine blk_far ?_ NB175_182.out _; (with_reducible repeat (first | refine blk_drewN ?_ _ | refine blk_drew ?_ | refine blk_alloc ?_ _)); refine blk_far ?_ NB175_182.out _; (with_reducible repeat (first | refine blk_drewN ?_ _ | refine blk_drew ?_ | refine blk_alloc ?_ _)); exact BK175.out) NB175_0.out (z_9)); have n1_ := Aside0.mk (KeepBut.blk hk (g' := gb182) (o := .cells #[.string t176, .int .i64 1, .int .i64 t178, .string (⟨#[]⟩ : ByteArray), .int .i64 (wrap64 (1 + t180))] 26 (0, 0)) (by (with_reducible repeat (first | refine blk_drewN ?_ _ | refine blk_drew ?_ | refine blk_alloc ?_ _)); refine blk_put (cs := #[.string t176, .int .i64 1, .int .i64 t178, .string (⟨#[]⟩ : ByteArray), .int .i64 0]) ?_ 4 _ rfl; (with_reducible repeat (first | refine blk_drewN ?_ _ | refine blk_drew ?_ | refine blk_alloc ?_ _)); refine blk_put (cs := #[.string t176, .int .i64 1, .int .i64 t178, .string (⟨#[]⟩ : ByteArray), .int .i64 0]) ?_ 3 _ rfl; (with_reducible repeat (first | refine blk_drewN ?_ _ | refine blk_drew ?_ | refine blk_alloc ?_ _)); refine blk_put (cs := #[.string t176, .int .i64 1, .int .i64 0, .string (⟨#[]⟩ : ByteArray), .int .i64 0]) ?_ 2 _ rfl; (with_reducible repeat (first | refine blk_drewN ?_ _ | refine blk_drew ?_ | refine blk_alloc ?_ _)); refine blk_put (cs := #[.string t176, .int .i64 0, .int .i64 0, .string (⟨#[]⟩ : ByteArray), .int .i64 0]) ?_ 1 _ rfl; (with_reducible repeat (first | refine blk_drewN ?_ _ | refine blk_drew ?_ | refine blk_alloc ?_ _)); refine blk_put (cs := #[.string (⟨#[]⟩ : ByteArray), .int .i64 0, .int .i64 0, .string (⟨#[]⟩ : ByteArray), .int .i64 0]) ?_ 0 _ rfl; (with_reducible repeat (first | refine blk_drewN ?_ _ | refine blk_drew ?_ | refine blk_alloc ?_ _)); exact BK182.out) NB182_0.out (z_9)); have n2_ := Aside0.mk (KeepBut.trans (z_40) hk (.inl rfl)); have n3_ := Aside0.mk (hb); have n4_ := Aside0.mk (hi); clear BK175; clear BK182; clear HK; clear HB; clear HI0; have BK175 := n0_; have BK182 := n1_; have HK := n2_; have HB := n3_; have HI0 := n4_; clear n0_ n1_ n2_ n3_ n4_; (try clear hb); (try clear hb2); (try clear hk); (try clear hi)))
  (try simp only [Act.put, List.setIfInBounds_toArray, List.set_cons_zero, List.set_cons_succ])
  go_cut [] (fun wc => ∃ (kq : Nat) (x1001_6 : Int) (x183001_6 : Int) (x183002_6 : Int) (x183003_6 : ByteArray), Aside0 (spec_l20Name.j0 kq a1 s0_0 x1001_6 t176 x183001_6 x183002_6 x183003_6 (wrap64 (1 + t180)) = some (r1, r2, r3, r4, r5, r6)) ∧ Aside0 (kq ≤ k) ∧ Aside0 (wc.heap[gb175]? = some (.cells #[.string (⟨#[]⟩ : ByteArray), .int .i64 0, .int .i64 0, .string (⟨#[]⟩ : ByteArray), .int .i64 0] 26 (0, 0))) ∧ Aside0 (wc.heap[gb182]? = some (.cells #[.string t176, .int .i64 x183001_6, .int .i64 x183002_6, .string x183003_6, .int .i64 (wrap64 (1 + t180))] 26 (0, 0))) ∧ Aside0 (IsS96 w0 wc g s0_0 x1001_6) ∧ Aside0 (KeepBut w wc g none) ∧ Aside0 (Below w0.heap.size w0 wc))
  case first =>
    have H := HC7.out
    clear HC7
    by_cases c17 : t183 = 0
    · rw [if_pos c17] at H
      have c17b0 : (t183 == 0) = true := beq_iff_eq.mpr c17
      have c17b1 : (t183 != 0) = false := bne_eq_false_iff_eq.mpr c17
      clear c17
      (first | rw [c17b0] | (simp only [i64_w, i32_w]; rw [c17b0]) | skip)
      replace H := Option.bind_eq_some_iff.mp H
      obtain ⟨⟨t185, t186⟩, A180, H⟩ := H
      replace H : (spec_l20Name.j0 k a1 s0_0 t186 t176 2 0 t185 (wrap64 (1 + t180))) = some (r1, r2, r3, r4, r5, r6) := H
      have A18 := Aside0.mk A180
      clear A180
      have H' := Aside0.mk H
      clear H
      have hnb19 := NB182_175.out
      have hnc19 := NB175_182.out
      have hnb20 := NB182_0.out
      have hnc20 := NB0_182.out
      have hcz21_0 : w16.cell? ⟨gb182, 0, none⟩ = some (.string t176) := (blk_cell BK182.out 0).trans rfl
      have hcz21_1 : w16.cell? ⟨gb182, 1, none⟩ = some (.int .i64 1) := (blk_cell BK182.out 1).trans rfl
      have hcz21_2 : w16.cell? ⟨gb182, 2, none⟩ = some (.int .i64 t178) := (blk_cell BK182.out 2).trans rfl
      have hcz21_3 : w16.cell? ⟨gb182, 3, none⟩ = some (.string (⟨#[]⟩ : ByteArray)) := (blk_cell BK182.out 3).trans rfl
      have hcz21_4 : w16.cell? ⟨gb182, 4, none⟩ = some (.int .i64 (wrap64 (1 + t180))) := (blk_cell BK182.out 4).trans rfl
      have hfz21_0 := blk_frozen BK182.out 0
      have hfz21_1 := blk_frozen BK182.out 1
      have hfz21_2 := blk_frozen BK182.out 2
      have hfz21_3 := blk_frozen BK182.out 3
      have hfz21_4 := blk_frozen BK182.out 4
      go_wp2_with (first | ((with_reducible refine gate_callee (f := 68) rfl ?_); refine goesL_ (some 20) rfl rfl Try.func68 (z_0) rfl #[.pointer (some ⟨g, 0, none⟩)] rfl (z_10) ?_; (with_reducible refine (spec_l20Text.calls k g s0_0 t184 t185 t186 w0 _ ?side1 ?side2 A18.out).mono ?_); (case side1 => exact z_38); (case side2 => exact z_39); rintro e w22 ⟨rfl, hi, hb, hk⟩; refine ⟨_, rfl, ?_⟩; have n0_ := Aside0.mk (KeepBut.blk hk (g' := gb175) (o := .cells #[.string (⟨#[]⟩ : ByteArray), .int .i64 0, .int .i64 0, .string (⟨#[]⟩ : ByteArray), .int .i64 0] 26 (0, 0)) (by (with_reducible repeat (first | refine blk_drewN ?_ _ | refine blk_drew ?_ | refine blk_alloc ?_ _)); refine blk_far ?_ NB175_182.out _; (with_reducible repeat (first | refine blk_drewN ?_ _ | refine blk_drew ?_ | refine blk_alloc ?_ _)); refine blk_far ?_ NB175_182.out _; (with_reducible repeat (first | refine blk_drewN ?_ _ | refine blk_drew ?_ | refine blk_alloc ?_ _)); exact BK175.out) NB175_0.out (z_9)); have n1_ := Aside0.mk (KeepBut.blk hk (g' := gb182) (o := .cells #[.string t176, .int .i64 2, .int .i64 0, .string (⟨#[]⟩ : ByteArray), .int .i64 (wrap64 (1 + t180))] 26 (0, 0)) (by (with_reducible repeat (first | refine blk_drewN ?_ _ | refine blk_drew ?_ | refine blk_alloc ?_ _)); refine blk_put (cs := #[.string t176, .int .i64 2, .int .i64 t178, .string (⟨#[]⟩ : ByteArray), .int .i64 (wrap64 (1 + t180))]) ?_ 2 _ rfl; (with_reducible repeat (first | refine blk_drewN ?_ _ | refine blk_drew ?_ | refine blk_alloc ?_ _)); refine blk_put (cs := #[.string t176, .int .i64 1, .int .i64 t178, .string (⟨#[]⟩ : ByteArray), .int .i64 (wrap64 (1 + t180))]) ?_ 1 _ rfl; (with_reducible repeat (first | refine blk_drewN ?_ _ | refine blk_drew ?_ | refine blk_alloc ?_ _)); exact BK182.out) NB182_0.out (z_9)); have n2_ := Aside0.mk (KeepBut.trans (z_40) hk (.inl rfl)); have n3_ := Aside0.mk (hb); have n4_ := Aside0.mk (hi); clear BK175; clear BK182; clear HK; clear HB; clear HI0; have BK175 := n0_; have BK182 := n1_; have HK := n2_; have HB := n3_; have HI0 := n4_; clear n0_ n1_ n2_ n3_ n4_; (try clear hb); (try clear hb2); (try clear hk); (try clear hi); have hcz23_0 : w22.cell? ⟨gb182, 0, none⟩ = some (.string t176) := (blk_cell BK182.out 0).trans rfl; have hcz23_1 : w22.cell? ⟨gb182, 1, none⟩ = some (.int .i64 2) := (blk_cell BK182.out 1).trans rfl; have hcz23_2 : w22.cell? ⟨gb182, 2, none⟩ = some (.int .i64 0) := (blk_cell BK182.out 2).trans rfl; have hcz23_3 : w22.cell? ⟨gb182, 3, none⟩ = some (.string (⟨#[]⟩ : ByteArray)) := (blk_cell BK182.out 3).trans rfl; have hcz23_4 : w22.cell? ⟨gb182, 4, none⟩ = some (.int .i64 (wrap64 (1 + t180))) := (blk_cell BK182.out 4).trans rfl; have hfz23_0 := blk_frozen BK182.out 0; have hfz23_1 := blk_frozen BK182.out 1; have hfz23_2 := blk_frozen BK182.out 2; have hfz23_3 := blk_frozen BK182.out 3; have hfz23_4 := blk_frozen BK182.out 4))
      go_meet
      case rel => exact ⟨_, (t186), (2), (0), (t185), H', ⟨z_15⟩, ⟨by (with_reducible repeat (first | refine blk_drewN ?_ _ | refine blk_drew ?_ | refine blk_alloc ?_ _)); refine blk_far ?_ NB175_182.out _; (with_reducible repeat (first | refine blk_drewN ?_ _ | refine blk_drew ?_ | refine blk_alloc ?_ _)); exact BK175.out⟩, ⟨by (with_reducible repeat (first | refine blk_drewN ?_ _ | refine blk_drew ?_ | refine blk_alloc ?_ _)); refine blk_put (cs := #[.string t176, .int .i64 2, .int .i64 0, .string (⟨#[]⟩ : ByteArray), .int .i64 (wrap64 (1 + t180))]) ?_ 3 _ rfl; (with_reducible repeat (first | refine blk_drewN ?_ _ | refine blk_drew ?_ | refine blk_alloc ?_ _)); exact BK182.out⟩, ⟨z_38⟩, ⟨z_40⟩, ⟨z_39⟩⟩
    · rw [if_neg c17] at H
      have c17b0 : (t183 == 0) = false := beq_eq_false_iff_ne.mpr c17
      have c17b1 : (t183 != 0) = true := bne_iff_ne.mpr c17
      (first | rw [c17b0] | (simp only [i64_w, i32_w]; rw [c17b0]) | skip)
      have H' := Aside0.mk H
      clear H
      go_wp2
      go_meet
      case rel => exact ⟨_, (t184), (1), (t178), ((⟨#[]⟩ : ByteArray)), H', ⟨z_15⟩, ⟨z_35⟩, ⟨z_41⟩, ⟨z_38⟩, ⟨z_40⟩, ⟨z_39⟩⟩
  case rest =>
    clear HC7
    try clear c1
    try clear c2
    try clear p2
    try clear c5
    try clear c6
    try clear p6
    try clear c13
    try clear c14
    try clear c17
    try clear c17b0
    try clear c17b1
    try clear c19
    try clear c20
    try clear hcz15_0
    try clear hcz15_1
    try clear hcz15_2
    try clear hcz15_3
    try clear hcz15_4
    try clear hcz21_0
    try clear hcz21_1
    try clear hcz21_2
    try clear hcz21_3
    try clear hcz21_4
    try clear hcz23_0
    try clear hcz23_1
    try clear hcz23_2
    try clear hcz23_3
    try clear hcz23_4
    try clear hfz15_0
    try clear hfz15_1
    try clear hfz15_2
    try clear hfz15_3
    try clear hfz15_4
    try clear hfz21_0
    try clear hfz21_1
    try clear hfz21_2
    try clear hfz21_3
    try clear hfz21_4
    try clear hfz23_0
    try clear hfz23_1
    try clear hfz23_2
    try clear hfz23_3
    try clear hfz23_4
    obtain ⟨kq, x1001_6, x183001_6, x183002_6, x183003_6, HA, HJ6, BK175, BK182, HI0, HK, HB⟩ := hcut
    cases kq with
    | zero => exact absurd HA.out (by simp [spec_l20Name.j0])
    | succ kj6 =>
      have H := HA.out
      clear HA
      simp only [spec_l20Name.j0] at H
      replace H := Option.bind_eq_some_iff.mp H
      obtain ⟨⟨t187, t188⟩, A240, H⟩ := H
      replace H : (if t187 = true then ((spec_l20Rd_pick.f kj6 s0_0 t188 4).bind fun bt189 => (if bt189.1 = 0 then ((some (([(⟨#[]⟩ : ByteArray), (⟨#[65]⟩ : ByteArray), (⟨#[97, 98, 99, 100, 101, 102, 103, 104, 105, 106, 107, 108, 109]⟩ : ByteArray)] : List ByteArray) : List ByteArray)).bind fun y191 => ((spec_l20Rd_pick.f kj6 s0_0 bt189.2 3).bind fun bt194 => (if 0 ≤ bt194.1 then (if bt194.1 < (y191.length : Int) then (some (rdOf ByteArray.empty y191 bt194.1, x183001_6, x183002_6, x183003_6, (wrap64 (1 + t180)), bt194.2)) else (none)) else (none)))) else (if bt189.1 = 1 then ((spec_l20Rd_pick.f kj6 s0_0 bt189.2 2).bind fun bt197 => (some (t176, x183001_6, x183002_6, x183003_6, wrap64 (bt197.1 * 51), bt197.2))) else (if bt189.1 = 2 then ((spec_l20Rd_pick.f kj6 s0_0 bt189.2 5).bind fun bt199 => (some (t176, bt199.1, x183002_6, x183003_6, (wrap64 (1 + t180)), bt199.2))) else (some (t176, x183001_6, x183002_6, (⟨#[120, 32, 121]⟩ : ByteArray), (wrap64 (1 + t180)), bt189.2)))))) else (some (t176, x183001_6, x183002_6, x183003_6, (wrap64 (1 + t180)), t188))) = some (r1, r2, r3, r4, r5, r6) := H
      have A24 := Aside0.mk A240
      clear A240
      by_cases c25 : t187 = true
      · subst c25
        rw [if_pos rfl] at H
        replace H := Option.bind_eq_some_iff.mp H
        obtain ⟨⟨t189, t190⟩, A260, H⟩ := H
        replace H : (if t189 = 0 then ((some (([(⟨#[]⟩ : ByteArray), (⟨#[65]⟩ : ByteArray), (⟨#[97, 98, 99, 100, 101, 102, 103, 104, 105, 106, 107, 108, 109]⟩ : ByteArray)] : List ByteArray) : List ByteArray)).bind fun y191 => ((spec_l20Rd_pick.f kj6 s0_0 t190 3).bind fun bt194 => (if 0 ≤ bt194.1 then (if bt194.1 < (y191.length : Int) then (some (rdOf ByteArray.empty y191 bt194.1, x183001_6, x183002_6, x183003_6, (wrap64 (1 + t180)), bt194.2)) else (none)) else (none)))) else (if t189 = 1 then ((spec_l20Rd_pick.f kj6 s0_0 t190 2).bind fun bt197 => (some (t176, x183001_6, x183002_6, x183003_6, wrap64 (bt197.1 * 51), bt197.2))) else (if t189 = 2 then ((spec_l20Rd_pick.f kj6 s0_0 t190 5).bind fun bt199 => (some (t176, bt199.1, x183002_6, x183003_6, (wrap64 (1 + t180)), bt199.2))) else (some (t176, x183001_6, x183002_6, (⟨#[120, 32, 121]⟩ : ByteArray), (wrap64 (1 + t180)), t190))))) = some (r1, r2, r3, r4, r5, r6) := H
        have A26 := Aside0.mk A260
        clear A260
        by_cases c27 : t189 = 0
        · rw [if_pos c27] at H
          have c27b0 : (t189 == 0) = true := beq_iff_eq.mpr c27
          have c27b1 : (t189 != 0) = false := bne_eq_false_iff_eq.mpr c27
          clear c27
          obtain ⟨y191, hy191⟩ : ∃ y_ : List ByteArray, y_ = (([(⟨#[]⟩ : ByteArray), (⟨#[65]⟩ : ByteArray), (⟨#[97, 98, 99, 100, 101, 102, 103, 104, 105, 106, 107, 108, 109]⟩ : ByteArray)] : List ByteArray)) := ⟨_, rfl⟩
          replace H : ((spec_l20Rd_pick.f kj6 s0_0 t190 3).bind fun bt194 => (if 0 ≤ bt194.1 then (if bt194.1 < (y191.length : Int) then (some (rdOf ByteArray.empty y191 bt194.1, x183001_6, x183002_6, x183003_6, (wrap64 (1 + t180)), bt194.2)) else (none)) else (none))) = some (r1, r2, r3, r4, r5, r6) := by first | (rw [hy191]; with_reducible exact H) | (have H2_ := (Option.bind_some _ _).symm.trans H; rw [hy191]; with_reducible exact H2_) | (have H2_ := (Option.bind_some _ _).symm.trans H; with_reducible exact H2_) | with_reducible exact H | (rw [hy191]; exact H) | exact H
          have Ny191 := Aside0.mk hy191
          clear hy191
          replace H := Option.bind_eq_some_iff.mp H
          obtain ⟨⟨t194, t195⟩, A280, H⟩ := H
          replace H : (if 0 ≤ t194 then (if t194 < (y191.length : Int) then (some (rdOf ByteArray.empty y191 t194, x183001_6, x183002_6, x183003_6, (wrap64 (1 + t180)), t195)) else (none)) else (none)) = some (r1, r2, r3, r4, r5, r6) := H
          have A28 := Aside0.mk A280
          clear A280
          by_cases c29 : 0 ≤ t194
          · rw [if_pos c29] at H
            have c29b0 : decide (0 ≤ t194) = true := decide_eq_true c29
            clear c29
            by_cases c30 : t194 < (y191.length : Int)
            · rw [if_pos c30] at H
              have c30b0 : decide (t194 < (y191.length : Int)) = true := decide_eq_true c30
              clear c30
              simp only [Option.some.injEq, Prod.mk.injEq] at H
              obtain ⟨rfl, rfl, rfl, rfl, rfl, rfl⟩ := H
              go_wp2_with (first | ((with_reducible refine gate_callee (f := 78) rfl ?_); refine goesL_ (some 24) rfl rfl Try.func78 (z_0) rfl #[.pointer (some ⟨g, 0, none⟩), .int .i64 a1] rfl (z_10) ?_; (with_reducible refine (spec_l20Rd_odd.calls kj6 g s0_0 x1001_6 a1 true t188 w0 _ ?side1 ?side2 A24.out).mono ?_); (case side1 => exact z_38); (case side2 => exact z_39); rintro e w31 ⟨rfl, hi, hb, hk⟩; refine ⟨_, rfl, ?_⟩; have n0_ := Aside0.mk (KeepBut.blk hk (g' := gb175) (o := .cells #[.string (⟨#[]⟩ : ByteArray), .int .i64 0, .int .i64 0, .string (⟨#[]⟩ : ByteArray), .int .i64 0] 26 (0, 0)) (z_35) NB175_0.out (z_9)); have n1_ := Aside0.mk (KeepBut.blk hk (g' := gb182) (o := .cells #[.string t176, .int .i64 x183001_6, .int .i64 x183002_6, .string x183003_6, .int .i64 (wrap64 (1 + t180))] 26 (0, 0)) (z_41) NB182_0.out (z_9)); have n2_ := Aside0.mk (KeepBut.trans (z_40) hk (.inl rfl)); have n3_ := Aside0.mk (hb); have n4_ := Aside0.mk (hi); clear BK175; clear BK182; clear HK; clear HB; clear HI0; have BK175 := n0_; have BK182 := n1_; have HK := n2_; have HB := n3_; have HI0 := n4_; clear n0_ n1_ n2_ n3_ n4_; (try clear hb); (try clear hb2); (try clear hk); (try clear hi)) | ((with_reducible refine gate_callee (f := 69) rfl ?_); refine goesL_ (some 26) rfl rfl Try.func69 (z_0) rfl #[.pointer (some ⟨g, 0, none⟩), .int .i64 4] rfl (z_10) ?_; (with_reducible refine (spec_l20Rd_pick.calls kj6 g s0_0 t188 4 t189 t190 w0 _ ?side1 ?side2 A26.out).mono ?_); (case side1 => exact z_38); (case side2 => exact z_39); rintro e w32 ⟨rfl, hi, hb, hk⟩; refine ⟨_, rfl, ?_⟩; have n0_ := Aside0.mk (KeepBut.blk hk (g' := gb175) (o := .cells #[.string (⟨#[]⟩ : ByteArray), .int .i64 0, .int .i64 0, .string (⟨#[]⟩ : ByteArray), .int .i64 0] 26 (0, 0)) (z_35) NB175_0.out (z_9)); have n1_ := Aside0.mk (KeepBut.blk hk (g' := gb182) (o := .cells #[.string t176, .int .i64 x183001_6, .int .i64 x183002_6, .string x183003_6, .int .i64 (wrap64 (1 + t180))] 26 (0, 0)) (z_41) NB182_0.out (z_9)); have n2_ := Aside0.mk (KeepBut.trans (z_40) hk (.inl rfl)); have n3_ := Aside0.mk (hb); have n4_ := Aside0.mk (hi); clear BK175; clear BK182; clear HK; clear HB; clear HI0; have BK175 := n0_; have BK182 := n1_; have HK := n2_; have HB := n3_; have HI0 := n4_; clear n0_ n1_ n2_ n3_ n4_; (try clear hb); (try clear hb2); (try clear hk); (try clear hi)) | ((with_reducible refine gate_dst (N := 30) rfl ?_); refine Kd.R_lit Kd.string _ 9 ?hg (N := 30) ?hd (xs := ([(⟨#[]⟩ : ByteArray), (⟨#[65]⟩ : ByteArray), (⟨#[97, 98, 99, 100, 101, 102, 103, 104, 105, 106, 107, 108, 109]⟩ : ByteArray)] : List ByteArray)) (inner := [.string (⟨#[]⟩ : ByteArray), .string (⟨#[65]⟩ : ByteArray), .string (⟨#[97, 98, 99, 100, 101, 102, 103, 104, 105, 106, 107, 108, 109]⟩ : ByteArray)]) (ok := fun _ => True) (okp := fun _ => True) ?hr ?hp (fun _ hk => hk) trivial (Below.refl _ _) (Nat.le_refl _) (z_9) ?_; (case hd => rfl); (case hg => rfl); (case hr => exact z_11); (case hp => exact (Reps.one (show Kd.M Kd.string _ _ _ (⟨#[]⟩ : ByteArray) [.string (⟨#[]⟩ : ByteArray)] from rfl) (Reps.one (show Kd.M Kd.string _ _ _ (⟨#[65]⟩ : ByteArray) [.string (⟨#[65]⟩ : ByteArray)] from rfl) (Reps.one (show Kd.M Kd.string _ _ _ (⟨#[97, 98, 99, 100, 101, 102, 103, 104, 105, 106, 107, 108, 109]⟩ : ByteArray) [.string (⟨#[97, 98, 99, 100, 101, 102, 103, 104, 105, 106, 107, 108, 109]⟩ : ByteArray)] from rfl) (Reps.none _ _))))); intro v192 w33 ho34 hb hg_ hnew_; clear hg_ hnew_; (first | rw [← Ny191.out] at ho34 | (simp only [Int.reduceToNat] at ho34; rw [← Ny191.out] at ho34)); have n0_ := Aside0.mk (Kd.R_lower ho34 (keep_size (w := w) (g := g) (row := none) (z_40))); have n1_ := Aside0.mk (blk_below (g := gb175) (o := .cells #[.string (⟨#[]⟩ : ByteArray), .int .i64 0, .int .i64 0, .string (⟨#[]⟩ : ByteArray), .int .i64 0] 26 (0, 0)) (z_35) hb); have n2_ := Aside0.mk (blk_below (g := gb182) (o := .cells #[.string t176, .int .i64 x183001_6, .int .i64 x183002_6, .string x183003_6, .int .i64 (wrap64 (1 + t180))] 26 (0, 0)) (z_41) hb); have n3_ := Aside0.mk (IsS96.below (z_38) hb); have n4_ := Aside0.mk (KeepBut.trans (z_40) (KeepBut.of_below hb g none) (.inl rfl)); have n5_ := Aside0.mk (below_step (z_39) hb); clear BK175; clear BK182; clear HI0; clear HK; clear HB; have HO193 := n0_; have BK175 := n1_; have BK182 := n2_; have HI0 := n3_; have HK := n4_; have HB := n5_; clear n0_ n1_ n2_ n3_ n4_ n5_; clear hb ho34) | ((with_reducible refine gate_callee (f := 69) rfl ?_); refine goesL_ (some 32) rfl rfl Try.func69 (z_0) rfl #[.pointer (some ⟨g, 0, none⟩), .int .i64 3] rfl (z_10) ?_; (with_reducible refine (spec_l20Rd_pick.calls kj6 g s0_0 t190 3 t194 t195 w0 _ ?side1 ?side2 A28.out).mono ?_); (case side1 => exact z_38); (case side2 => exact z_39); rintro e w35 ⟨rfl, hi, hb, hk⟩; refine ⟨_, rfl, ?_⟩; have n0_ := Aside0.mk (KeepBut.blk hk (g' := gb175) (o := .cells #[.string (⟨#[]⟩ : ByteArray), .int .i64 0, .int .i64 0, .string (⟨#[]⟩ : ByteArray), .int .i64 0] 26 (0, 0)) (z_35) NB175_0.out (z_9)); have n1_ := Aside0.mk (KeepBut.blk hk (g' := gb182) (o := .cells #[.string t176, .int .i64 x183001_6, .int .i64 x183002_6, .string x183003_6, .int .i64 (wrap64 (1 + t180))] 26 (0, 0)) (z_41) NB182_0.out (z_9)); have n2_ := Aside0.mk (Kd.R_mono (Kd.R_keep (IsS96.apart (show IsS96 w0 _ g s0_0 t190 from z_38) (by (with_reducible repeat (first | apply Kd.R_alloc | apply Kd.R_drewN | apply Kd.R_drew)); exact HO193.out) (z_16)) hk (fun _ h => h.2)) (fun _ h => h.1)); have n3_ := Aside0.mk (KeepBut.trans (z_40) hk (.inl rfl)); have n4_ := Aside0.mk (hb); have n5_ := Aside0.mk (hi); clear BK175; clear BK182; clear HO193; clear HK; clear HB; clear HI0; have BK175 := n0_; have BK182 := n1_; have HO193 := n2_; have HK := n3_; have HB := n4_; have HI0 := n5_; clear n0_ n1_ n2_ n3_ n4_ n5_; (try clear hb); (try clear hb2); (try clear hk); (try clear hi); obtain ⟨Ao36, co36, eo36⟩ := Kd.R_slice HO193.out; subst eo36; have p196 : 0 ≤ (t194 : Int) := of_decide_eq_true (z_6); have q196 : t194 < (y191.length : Int) := of_decide_eq_true (z_6); obtain ⟨ad196, e196, hx196_0⟩ := Kd.at_string (Kd.R_reads' HO193.out).2.2 t194 p196 q196; cases e196; replace p196 := eq_true p196; replace q196 := eq_true q196; have hnb37 := NB182_175.out; have hnc37 := NB175_182.out; have hnb38 := NB182_0.out; have hnc38 := NB0_182.out; have hcz39_0 : w35.cell? ⟨gb182, 0, none⟩ = some (.string t176) := (blk_cell BK182.out 0).trans rfl; have hcz39_1 : w35.cell? ⟨gb182, 1, none⟩ = some (.int .i64 x183001_6) := (blk_cell BK182.out 1).trans rfl; have hcz39_2 : w35.cell? ⟨gb182, 2, none⟩ = some (.int .i64 x183002_6) := (blk_cell BK182.out 2).trans rfl; have hcz39_3 : w35.cell? ⟨gb182, 3, none⟩ = some (.string x183003_6) := (blk_cell BK182.out 3).trans rfl; have hcz39_4 : w35.cell? ⟨gb182, 4, none⟩ = some (.int .i64 (wrap64 (1 + t180))) := (blk_cell BK182.out 4).trans rfl; have hfz39_0 := blk_frozen BK182.out 0; have hfz39_1 := blk_frozen BK182.out 1; have hfz39_2 := blk_frozen BK182.out 2; have hfz39_3 := blk_frozen BK182.out 3; have hfz39_4 := blk_frozen BK182.out 4; have hnb40 := NB175_0.out; have hnc40 := NB0_175.out; have hcz41_0 : w35.cell? ⟨gb175, 0, none⟩ = some (.string (⟨#[]⟩ : ByteArray)) := (blk_cell BK175.out 0).trans rfl; have hcz41_1 : w35.cell? ⟨gb175, 1, none⟩ = some (.int .i64 0) := (blk_cell BK175.out 1).trans rfl; have hcz41_2 : w35.cell? ⟨gb175, 2, none⟩ = some (.int .i64 0) := (blk_cell BK175.out 2).trans rfl; have hcz41_3 : w35.cell? ⟨gb175, 3, none⟩ = some (.string (⟨#[]⟩ : ByteArray)) := (blk_cell BK175.out 3).trans rfl; have hcz41_4 : w35.cell? ⟨gb175, 4, none⟩ = some (.int .i64 0) := (blk_cell BK175.out 4).trans rfl; have hfz41_0 := blk_frozen BK175.out 0; have hfz41_1 := blk_frozen BK175.out 1; have hfz41_2 := blk_frozen BK175.out 2; have hfz41_3 := blk_frozen BK175.out 3; have hfz41_4 := blk_frozen BK175.out 4))
              refine bodyPost_ret (results_cell_row rfl _ _ gb175 26 #[.string (rdOf ByteArray.empty y191 t194), .int .i64 x183001_6, .int .i64 x183002_6, .string x183003_6, .int .i64 (wrap64 (1 + t180))] (0, 0) _ rfl (by (with_reducible repeat (first | refine blk_drewN ?_ _ | refine blk_drew ?_ | refine blk_alloc ?_ _)); refine blk_put (cs := #[.string (rdOf ByteArray.empty y191 t194), .int .i64 x183001_6, .int .i64 x183002_6, .string x183003_6, .int .i64 0]) ?_ 4 _ rfl; (with_reducible repeat (first | refine blk_drewN ?_ _ | refine blk_drew ?_ | refine blk_alloc ?_ _)); refine blk_put (cs := #[.string (rdOf ByteArray.empty y191 t194), .int .i64 x183001_6, .int .i64 x183002_6, .string (⟨#[]⟩ : ByteArray), .int .i64 0]) ?_ 3 _ rfl; (with_reducible repeat (first | refine blk_drewN ?_ _ | refine blk_drew ?_ | refine blk_alloc ?_ _)); refine blk_put (cs := #[.string (rdOf ByteArray.empty y191 t194), .int .i64 x183001_6, .int .i64 0, .string (⟨#[]⟩ : ByteArray), .int .i64 0]) ?_ 2 _ rfl; (with_reducible repeat (first | refine blk_drewN ?_ _ | refine blk_drew ?_ | refine blk_alloc ?_ _)); refine blk_put (cs := #[.string (rdOf ByteArray.empty y191 t194), .int .i64 0, .int .i64 0, .string (⟨#[]⟩ : ByteArray), .int .i64 0]) ?_ 1 _ rfl; (with_reducible repeat (first | refine blk_drewN ?_ _ | refine blk_drew ?_ | refine blk_alloc ?_ _)); refine blk_put (cs := #[.string (⟨#[]⟩ : ByteArray), .int .i64 0, .int .i64 0, .string (⟨#[]⟩ : ByteArray), .int .i64 0]) ?_ 0 _ rfl; (with_reducible repeat (first | refine blk_drewN ?_ _ | refine blk_drew ?_ | refine blk_alloc ?_ _)); refine blk_far ?_ NB175_182.out _; (with_reducible repeat (first | refine blk_drewN ?_ _ | refine blk_drew ?_ | refine blk_alloc ?_ _)); exact BK175.out) Try.underlying26 rfl (z_0)) rfl ?_
              exact ⟨z_7, z_38, z_39, z_40⟩
            · rw [if_neg c30] at H
              exact absurd H (z_9)
          · rw [if_neg c29] at H
            exact absurd H (z_9)
        · rw [if_neg c27] at H
          have c27b0 : (t189 == 0) = false := beq_eq_false_iff_ne.mpr c27
          have c27b1 : (t189 != 0) = true := bne_iff_ne.mpr c27
          by_cases c42 : t189 = 1
          · rw [if_pos c42] at H
            have c42b0 : (t189 == 1) = true := beq_iff_eq.mpr c42
            have c42b1 : (t189 != 1) = false := bne_eq_false_iff_eq.mpr c42
            clear c42
            replace H := Option.bind_eq_some_iff.mp H
            obtain ⟨⟨t197, t198⟩, A430, H⟩ := H
            replace H : (some (t176, x183001_6, x183002_6, x183003_6, wrap64 (t197 * 51), t198)) = some (r1, r2, r3, r4, r5, r6) := H
            have A43 := Aside0.mk A430
            clear A430
            simp only [Option.some.injEq, Prod.mk.injEq] at H
            obtain ⟨rfl, rfl, rfl, rfl, rfl, rfl⟩ := H
            go_wp2_with (first | ((with_reducible refine gate_callee (f := 78) rfl ?_); refine goesL_ (some 24) rfl rfl Try.func78 (z_0) rfl #[.pointer (some ⟨g, 0, none⟩), .int .i64 a1] rfl (z_10) ?_; (with_reducible refine (spec_l20Rd_odd.calls kj6 g s0_0 x1001_6 a1 true t188 w0 _ ?side1 ?side2 A24.out).mono ?_); (case side1 => exact z_38); (case side2 => exact z_39); rintro e w44 ⟨rfl, hi, hb, hk⟩; refine ⟨_, rfl, ?_⟩; have n0_ := Aside0.mk (KeepBut.blk hk (g' := gb175) (o := .cells #[.string (⟨#[]⟩ : ByteArray), .int .i64 0, .int .i64 0, .string (⟨#[]⟩ : ByteArray), .int .i64 0] 26 (0, 0)) (z_35) NB175_0.out (z_9)); have n1_ := Aside0.mk (KeepBut.blk hk (g' := gb182) (o := .cells #[.string t176, .int .i64 x183001_6, .int .i64 x183002_6, .string x183003_6, .int .i64 (wrap64 (1 + t180))] 26 (0, 0)) (z_41) NB182_0.out (z_9)); have n2_ := Aside0.mk (KeepBut.trans (z_40) hk (.inl rfl)); have n3_ := Aside0.mk (hb); have n4_ := Aside0.mk (hi); clear BK175; clear BK182; clear HK; clear HB; clear HI0; have BK175 := n0_; have BK182 := n1_; have HK := n2_; have HB := n3_; have HI0 := n4_; clear n0_ n1_ n2_ n3_ n4_; (try clear hb); (try clear hb2); (try clear hk); (try clear hi)) | ((with_reducible refine gate_callee (f := 69) rfl ?_); refine goesL_ (some 26) rfl rfl Try.func69 (z_0) rfl #[.pointer (some ⟨g, 0, none⟩), .int .i64 4] rfl (z_10) ?_; (with_reducible refine (spec_l20Rd_pick.calls kj6 g s0_0 t188 4 t189 t190 w0 _ ?side1 ?side2 A26.out).mono ?_); (case side1 => exact z_38); (case side2 => exact z_39); rintro e w45 ⟨rfl, hi, hb, hk⟩; refine ⟨_, rfl, ?_⟩; have n0_ := Aside0.mk (KeepBut.blk hk (g' := gb175) (o := .cells #[.string (⟨#[]⟩ : ByteArray), .int .i64 0, .int .i64 0, .string (⟨#[]⟩ : ByteArray), .int .i64 0] 26 (0, 0)) (z_35) NB175_0.out (z_9)); have n1_ := Aside0.mk (KeepBut.blk hk (g' := gb182) (o := .cells #[.string t176, .int .i64 x183001_6, .int .i64 x183002_6, .string x183003_6, .int .i64 (wrap64 (1 + t180))] 26 (0, 0)) (z_41) NB182_0.out (z_9)); have n2_ := Aside0.mk (KeepBut.trans (z_40) hk (.inl rfl)); have n3_ := Aside0.mk (hb); have n4_ := Aside0.mk (hi); clear BK175; clear BK182; clear HK; clear HB; clear HI0; have BK175 := n0_; have BK182 := n1_; have HK := n2_; have HB := n3_; have HI0 := n4_; clear n0_ n1_ n2_ n3_ n4_; (try clear hb); (try clear hb2); (try clear hk); (try clear hi)) | ((with_reducible refine gate_callee (f := 69) rfl ?_); refine goesL_ (some 39) rfl rfl Try.func69 (z_0) rfl #[.pointer (some ⟨g, 0, none⟩), .int .i64 2] rfl (z_10) ?_; (with_reducible refine (spec_l20Rd_pick.calls kj6 g s0_0 t190 2 t197 t198 w0 _ ?side1 ?side2 A43.out).mono ?_); (case side1 => exact z_38); (case side2 => exact z_39); rintro e w46 ⟨rfl, hi, hb, hk⟩; refine ⟨_, rfl, ?_⟩; have n0_ := Aside0.mk (KeepBut.blk hk (g' := gb175) (o := .cells #[.string (⟨#[]⟩ : ByteArray), .int .i64 0, .int .i64 0, .string (⟨#[]⟩ : ByteArray), .int .i64 0] 26 (0, 0)) (z_35) NB175_0.out (z_9)); have n1_ := Aside0.mk (KeepBut.blk hk (g' := gb182) (o := .cells #[.string t176, .int .i64 x183001_6, .int .i64 x183002_6, .string x183003_6, .int .i64 (wrap64 (1 + t180))] 26 (0, 0)) (z_41) NB182_0.out (z_9)); have n2_ := Aside0.mk (KeepBut.trans (z_40) hk (.inl rfl)); have n3_ := Aside0.mk (hb); have n4_ := Aside0.mk (hi); clear BK175; clear BK182; clear HK; clear HB; clear HI0; have BK175 := n0_; have BK182 := n1_; have HK := n2_; have HB := n3_; have HI0 := n4_; clear n0_ n1_ n2_ n3_ n4_; (try clear hb); (try clear hb2); (try clear hk); (try clear hi); have hnb47 := NB182_175.out; have hnc47 := NB175_182.out; have hnb48 := NB182_0.out; have hnc48 := NB0_182.out; have hcz49_0 : w46.cell? ⟨gb182, 0, none⟩ = some (.string t176) := (blk_cell BK182.out 0).trans rfl; have hcz49_1 : w46.cell? ⟨gb182, 1, none⟩ = some (.int .i64 x183001_6) := (blk_cell BK182.out 1).trans rfl; have hcz49_2 : w46.cell? ⟨gb182, 2, none⟩ = some (.int .i64 x183002_6) := (blk_cell BK182.out 2).trans rfl; have hcz49_3 : w46.cell? ⟨gb182, 3, none⟩ = some (.string x183003_6) := (blk_cell BK182.out 3).trans rfl; have hcz49_4 : w46.cell? ⟨gb182, 4, none⟩ = some (.int .i64 (wrap64 (1 + t180))) := (blk_cell BK182.out 4).trans rfl; have hfz49_0 := blk_frozen BK182.out 0; have hfz49_1 := blk_frozen BK182.out 1; have hfz49_2 := blk_frozen BK182.out 2; have hfz49_3 := blk_frozen BK182.out 3; have hfz49_4 := blk_frozen BK182.out 4; have hnb50 := NB175_0.out; have hnc50 := NB0_175.out; have hcz51_0 : w46.cell? ⟨gb175, 0, none⟩ = some (.string (⟨#[]⟩ : ByteArray)) := (blk_cell BK175.out 0).trans rfl; have hcz51_1 : w46.cell? ⟨gb175, 1, none⟩ = some (.int .i64 0) := (blk_cell BK175.out 1).trans rfl; have hcz51_2 : w46.cell? ⟨gb175, 2, none⟩ = some (.int .i64 0) := (blk_cell BK175.out 2).trans rfl; have hcz51_3 : w46.cell? ⟨gb175, 3, none⟩ = some (.string (⟨#[]⟩ : ByteArray)) := (blk_cell BK175.out 3).trans rfl; have hcz51_4 : w46.cell? ⟨gb175, 4, none⟩ = some (.int .i64 0) := (blk_cell BK175.out 4).trans rfl; have hfz51_0 := blk_frozen BK175.out 0; have hfz51_1 := blk_frozen BK175.out 1; have hfz51_2 := blk_frozen BK175.out 2; have hfz51_3 := blk_frozen BK175.out 3; have hfz51_4 := blk_frozen BK175.out 4))
            refine bodyPost_ret (results_cell_row rfl _ _ gb175 26 #[.string t176, .int .i64 x183001_6, .int .i64 x183002_6, .string x183003_6, .int .i64 (wrap64 (t197 * 51))] (0, 0) _ rfl (by (with_reducible repeat (first | refine blk_drewN ?_ _ | refine blk_drew ?_ | refine blk_alloc ?_ _)); refine blk_put (cs := #[.string t176, .int .i64 x183001_6, .int .i64 x183002_6, .string x183003_6, .int .i64 0]) ?_ 4 _ rfl; (with_reducible repeat (first | refine blk_drewN ?_ _ | refine blk_drew ?_ | refine blk_alloc ?_ _)); refine blk_put (cs := #[.string t176, .int .i64 x183001_6, .int .i64 x183002_6, .string (⟨#[]⟩ : ByteArray), .int .i64 0]) ?_ 3 _ rfl; (with_reducible repeat (first | refine blk_drewN ?_ _ | refine blk_drew ?_ | refine blk_alloc ?_ _)); refine blk_put (cs := #[.string t176, .int .i64 x183001_6, .int .i64 0, .string (⟨#[]⟩ : ByteArray), .int .i64 0]) ?_ 2 _ rfl; (with_reducible repeat (first | refine blk_drewN ?_ _ | refine blk_drew ?_ | refine blk_alloc ?_ _)); refine blk_put (cs := #[.string t176, .int .i64 0, .int .i64 0, .string (⟨#[]⟩ : ByteArray), .int .i64 0]) ?_ 1 _ rfl; (with_reducible repeat (first | refine blk_drewN ?_ _ | refine blk_drew ?_ | refine blk_alloc ?_ _)); refine blk_put (cs := #[.string (⟨#[]⟩ : ByteArray), .int .i64 0, .int .i64 0, .string (⟨#[]⟩ : ByteArray), .int .i64 0]) ?_ 0 _ rfl; (with_reducible repeat (first | refine blk_drewN ?_ _ | refine blk_drew ?_ | refine blk_alloc ?_ _)); refine blk_far ?_ NB175_182.out _; (with_reducible repeat (first | refine blk_drewN ?_ _ | refine blk_drew ?_ | refine blk_alloc ?_ _)); exact BK175.out) Try.underlying26 rfl (z_0)) rfl ?_
            exact ⟨z_7, z_38, z_39, z_40⟩
          · rw [if_neg c42] at H
            have c42b0 : (t189 == 1) = false := beq_eq_false_iff_ne.mpr c42
            have c42b1 : (t189 != 1) = true := bne_iff_ne.mpr c42
            by_cases c52 : t189 = 2
            · rw [if_pos c52] at H
              have c52b0 : (t189 == 2) = true := beq_iff_eq.mpr c52
              have c52b1 : (t189 != 2) = false := bne_eq_false_iff_eq.mpr c52
              clear c52
              replace H := Option.bind_eq_some_iff.mp H
              obtain ⟨⟨t199, t200⟩, A530, H⟩ := H
              replace H : (some (t176, t199, x183002_6, x183003_6, (wrap64 (1 + t180)), t200)) = some (r1, r2, r3, r4, r5, r6) := H
              have A53 := Aside0.mk A530
              clear A530
              simp only [Option.some.injEq, Prod.mk.injEq] at H
              obtain ⟨rfl, rfl, rfl, rfl, rfl, rfl⟩ := H
              go_wp2_with (first | ((with_reducible refine gate_callee (f := 78) rfl ?_); refine goesL_ (some 24) rfl rfl Try.func78 (z_0) rfl #[.pointer (some ⟨g, 0, none⟩), .int .i64 a1] rfl (z_10) ?_; (with_reducible refine (spec_l20Rd_odd.calls kj6 g s0_0 x1001_6 a1 true t188 w0 _ ?side1 ?side2 A24.out).mono ?_); (case side1 => exact z_38); (case side2 => exact z_39); rintro e w54 ⟨rfl, hi, hb, hk⟩; refine ⟨_, rfl, ?_⟩; have n0_ := Aside0.mk (KeepBut.blk hk (g' := gb175) (o := .cells #[.string (⟨#[]⟩ : ByteArray), .int .i64 0, .int .i64 0, .string (⟨#[]⟩ : ByteArray), .int .i64 0] 26 (0, 0)) (z_35) NB175_0.out (z_9)); have n1_ := Aside0.mk (KeepBut.blk hk (g' := gb182) (o := .cells #[.string t176, .int .i64 x183001_6, .int .i64 x183002_6, .string x183003_6, .int .i64 (wrap64 (1 + t180))] 26 (0, 0)) (z_41) NB182_0.out (z_9)); have n2_ := Aside0.mk (KeepBut.trans (z_40) hk (.inl rfl)); have n3_ := Aside0.mk (hb); have n4_ := Aside0.mk (hi); clear BK175; clear BK182; clear HK; clear HB; clear HI0; have BK175 := n0_; have BK182 := n1_; have HK := n2_; have HB := n3_; have HI0 := n4_; clear n0_ n1_ n2_ n3_ n4_; (try clear hb); (try clear hb2); (try clear hk); (try clear hi)) | ((with_reducible refine gate_callee (f := 69) rfl ?_); refine goesL_ (some 26) rfl rfl Try.func69 (z_0) rfl #[.pointer (some ⟨g, 0, none⟩), .int .i64 4] rfl (z_10) ?_; (with_reducible refine (spec_l20Rd_pick.calls kj6 g s0_0 t188 4 t189 t190 w0 _ ?side1 ?side2 A26.out).mono ?_); (case side1 => exact z_38); (case side2 => exact z_39); rintro e w55 ⟨rfl, hi, hb, hk⟩; refine ⟨_, rfl, ?_⟩; have n0_ := Aside0.mk (KeepBut.blk hk (g' := gb175) (o := .cells #[.string (⟨#[]⟩ : ByteArray), .int .i64 0, .int .i64 0, .string (⟨#[]⟩ : ByteArray), .int .i64 0] 26 (0, 0)) (z_35) NB175_0.out (z_9)); have n1_ := Aside0.mk (KeepBut.blk hk (g' := gb182) (o := .cells #[.string t176, .int .i64 x183001_6, .int .i64 x183002_6, .string x183003_6, .int .i64 (wrap64 (1 + t180))] 26 (0, 0)) (z_41) NB182_0.out (z_9)); have n2_ := Aside0.mk (KeepBut.trans (z_40) hk (.inl rfl)); have n3_ := Aside0.mk (hb); have n4_ := Aside0.mk (hi); clear BK175; clear BK182; clear HK; clear HB; clear HI0; have BK175 := n0_; have BK182 := n1_; have HK := n2_; have HB := n3_; have HI0 := n4_; clear n0_ n1_ n2_ n3_ n4_; (try clear hb); (try clear hb2); (try clear hk); (try clear hi)) | ((with_reducible refine gate_callee (f := 69) rfl ?_); refine goesL_ (some 45) rfl rfl Try.func69 (z_0) rfl #[.pointer (some ⟨g, 0, none⟩), .int .i64 5] rfl (z_10) ?_; (with_reducible refine (spec_l20Rd_pick.calls kj6 g s0_0 t190 5 t199 t200 w0 _ ?side1 ?side2 A53.out).mono ?_); (case side1 => exact z_38); (case side2 => exact z_39); rintro e w56 ⟨rfl, hi, hb, hk⟩; refine ⟨_, rfl, ?_⟩; have n0_ := Aside0.mk (KeepBut.blk hk (g' := gb175) (o := .cells #[.string (⟨#[]⟩ : ByteArray), .int .i64 0, .int .i64 0, .string (⟨#[]⟩ : ByteArray), .int .i64 0] 26 (0, 0)) (z_35) NB175_0.out (z_9)); have n1_ := Aside0.mk (KeepBut.blk hk (g' := gb182) (o := .cells #[.string t176, .int .i64 x183001_6, .int .i64 x183002_6, .string x183003_6, .int .i64 (wrap64 (1 + t180))] 26 (0, 0)) (z_41) NB182_0.out (z_9)); have n2_ := Aside0.mk (KeepBut.trans (z_40) hk (.inl rfl)); have n3_ := Aside0.mk (hb); have n4_ := Aside0.mk (hi); clear BK175; clear BK182; clear HK; clear HB; clear HI0; have BK175 := n0_; have BK182 := n1_; have HK := n2_; have HB := n3_; have HI0 := n4_; clear n0_ n1_ n2_ n3_ n4_; (try clear hb); (try clear hb2); (try clear hk); (try clear hi); have hnb57 := NB182_175.out; have hnc57 := NB175_182.out; have hnb58 := NB182_0.out; have hnc58 := NB0_182.out; have hcz59_0 : w56.cell? ⟨gb182, 0, none⟩ = some (.string t176) := (blk_cell BK182.out 0).trans rfl; have hcz59_1 : w56.cell? ⟨gb182, 1, none⟩ = some (.int .i64 x183001_6) := (blk_cell BK182.out 1).trans rfl; have hcz59_2 : w56.cell? ⟨gb182, 2, none⟩ = some (.int .i64 x183002_6) := (blk_cell BK182.out 2).trans rfl; have hcz59_3 : w56.cell? ⟨gb182, 3, none⟩ = some (.string x183003_6) := (blk_cell BK182.out 3).trans rfl; have hcz59_4 : w56.cell? ⟨gb182, 4, none⟩ = some (.int .i64 (wrap64 (1 + t180))) := (blk_cell BK182.out 4).trans rfl; have hfz59_0 := blk_frozen BK182.out 0; have hfz59_1 := blk_frozen BK182.out 1; have hfz59_2 := blk_frozen BK182.out 2; have hfz59_3 := blk_frozen BK182.out 3; have hfz59_4 := blk_frozen BK182.out 4; have hnb60 := NB175_0.out; have hnc60 := NB0_175.out; have hcz61_0 : w56.cell? ⟨gb175, 0, none⟩ = some (.string (⟨#[]⟩ : ByteArray)) := (blk_cell BK175.out 0).trans rfl; have hcz61_1 : w56.cell? ⟨gb175, 1, none⟩ = some (.int .i64 0) := (blk_cell BK175.out 1).trans rfl; have hcz61_2 : w56.cell? ⟨gb175, 2, none⟩ = some (.int .i64 0) := (blk_cell BK175.out 2).trans rfl; have hcz61_3 : w56.cell? ⟨gb175, 3, none⟩ = some (.string (⟨#[]⟩ : ByteArray)) := (blk_cell BK175.out 3).trans rfl; have hcz61_4 : w56.cell? ⟨gb175, 4, none⟩ = some (.int .i64 0) := (blk_cell BK175.out 4).trans rfl; have hfz61_0 := blk_frozen BK175.out 0; have hfz61_1 := blk_frozen BK175.out 1; have hfz61_2 := blk_frozen BK175.out 2; have hfz61_3 := blk_frozen BK175.out 3; have hfz61_4 := blk_frozen BK175.out 4))
              refine bodyPost_ret (results_cell_row rfl _ _ gb175 26 #[.string t176, .int .i64 t199, .int .i64 x183002_6, .string x183003_6, .int .i64 (wrap64 (1 + t180))] (0, 0) _ rfl (by (with_reducible repeat (first | refine blk_drewN ?_ _ | refine blk_drew ?_ | refine blk_alloc ?_ _)); refine blk_put (cs := #[.string t176, .int .i64 t199, .int .i64 x183002_6, .string x183003_6, .int .i64 0]) ?_ 4 _ rfl; (with_reducible repeat (first | refine blk_drewN ?_ _ | refine blk_drew ?_ | refine blk_alloc ?_ _)); refine blk_put (cs := #[.string t176, .int .i64 t199, .int .i64 x183002_6, .string (⟨#[]⟩ : ByteArray), .int .i64 0]) ?_ 3 _ rfl; (with_reducible repeat (first | refine blk_drewN ?_ _ | refine blk_drew ?_ | refine blk_alloc ?_ _)); refine blk_put (cs := #[.string t176, .int .i64 t199, .int .i64 0, .string (⟨#[]⟩ : ByteArray), .int .i64 0]) ?_ 2 _ rfl; (with_reducible repeat (first | refine blk_drewN ?_ _ | refine blk_drew ?_ | refine blk_alloc ?_ _)); refine blk_put (cs := #[.string t176, .int .i64 0, .int .i64 0, .string (⟨#[]⟩ : ByteArray), .int .i64 0]) ?_ 1 _ rfl; (with_reducible repeat (first | refine blk_drewN ?_ _ | refine blk_drew ?_ | refine blk_alloc ?_ _)); refine blk_put (cs := #[.string (⟨#[]⟩ : ByteArray), .int .i64 0, .int .i64 0, .string (⟨#[]⟩ : ByteArray), .int .i64 0]) ?_ 0 _ rfl; (with_reducible repeat (first | refine blk_drewN ?_ _ | refine blk_drew ?_ | refine blk_alloc ?_ _)); refine blk_far ?_ NB175_182.out _; (with_reducible repeat (first | refine blk_drewN ?_ _ | refine blk_drew ?_ | refine blk_alloc ?_ _)); exact BK175.out) Try.underlying26 rfl (z_0)) rfl ?_
              exact ⟨z_7, z_38, z_39, z_40⟩
            · rw [if_neg c52] at H
              have c52b0 : (t189 == 2) = false := beq_eq_false_iff_ne.mpr c52
              have c52b1 : (t189 != 2) = true := bne_iff_ne.mpr c52
              simp only [Option.some.injEq, Prod.mk.injEq] at H
              obtain ⟨rfl, rfl, rfl, rfl, rfl, rfl⟩ := H
              go_wp2_with (first | ((with_reducible refine gate_callee (f := 78) rfl ?_); refine goesL_ (some 24) rfl rfl Try.func78 (z_0) rfl #[.pointer (some ⟨g, 0, none⟩), .int .i64 a1] rfl (z_10) ?_; (with_reducible refine (spec_l20Rd_odd.calls kj6 g s0_0 x1001_6 a1 true t188 w0 _ ?side1 ?side2 A24.out).mono ?_); (case side1 => exact z_38); (case side2 => exact z_39); rintro e w62 ⟨rfl, hi, hb, hk⟩; refine ⟨_, rfl, ?_⟩; have n0_ := Aside0.mk (KeepBut.blk hk (g' := gb175) (o := .cells #[.string (⟨#[]⟩ : ByteArray), .int .i64 0, .int .i64 0, .string (⟨#[]⟩ : ByteArray), .int .i64 0] 26 (0, 0)) (z_35) NB175_0.out (z_9)); have n1_ := Aside0.mk (KeepBut.blk hk (g' := gb182) (o := .cells #[.string t176, .int .i64 x183001_6, .int .i64 x183002_6, .string x183003_6, .int .i64 (wrap64 (1 + t180))] 26 (0, 0)) (z_41) NB182_0.out (z_9)); have n2_ := Aside0.mk (KeepBut.trans (z_40) hk (.inl rfl)); have n3_ := Aside0.mk (hb); have n4_ := Aside0.mk (hi); clear BK175; clear BK182; clear HK; clear HB; clear HI0; have BK175 := n0_; have BK182 := n1_; have HK := n2_; have HB := n3_; have HI0 := n4_; clear n0_ n1_ n2_ n3_ n4_; (try clear hb); (try clear hb2); (try clear hk); (try clear hi)) | ((with_reducible refine gate_callee (f := 69) rfl ?_); refine goesL_ (some 26) rfl rfl Try.func69 (z_0) rfl #[.pointer (some ⟨g, 0, none⟩), .int .i64 4] rfl (z_10) ?_; (with_reducible refine (spec_l20Rd_pick.calls kj6 g s0_0 t188 4 t189 t190 w0 _ ?side1 ?side2 A26.out).mono ?_); (case side1 => exact z_38); (case side2 => exact z_39); rintro e w63 ⟨rfl, hi, hb, hk⟩; refine ⟨_, rfl, ?_⟩; have n0_ := Aside0.mk (KeepBut.blk hk (g' := gb175) (o := .cells #[.string (⟨#[]⟩ : ByteArray), .int .i64 0, .int .i64 0, .string (⟨#[]⟩ : ByteArray), .int .i64 0] 26 (0, 0)) (z_35) NB175_0.out (z_9)); have n1_ := Aside0.mk (KeepBut.blk hk (g' := gb182) (o := .cells #[.string t176, .int .i64 x183001_6, .int .i64 x183002_6, .string x183003_6, .int .i64 (wrap64 (1 + t180))] 26 (0, 0)) (z_41) NB182_0.out (z_9)); have n2_ := Aside0.mk (KeepBut.trans (z_40) hk (.inl rfl)); have n3_ := Aside0.mk (hb); have n4_ := Aside0.mk (hi); clear BK175; clear BK182; clear HK; clear HB; clear HI0; have BK175 := n0_; have BK182 := n1_; have HK := n2_; have HB := n3_; have HI0 := n4_; clear n0_ n1_ n2_ n3_ n4_; (try clear hb); (try clear hb2); (try clear hk); (try clear hi); have hnb64 := NB182_175.out; have hnc64 := NB175_182.out; have hnb65 := NB182_0.out; have hnc65 := NB0_182.out; have hcz66_0 : w63.cell? ⟨gb182, 0, none⟩ = some (.string t176) := (blk_cell BK182.out 0).trans rfl; have hcz66_1 : w63.cell? ⟨gb182, 1, none⟩ = some (.int .i64 x183001_6) := (blk_cell BK182.out 1).trans rfl; have hcz66_2 : w63.cell? ⟨gb182, 2, none⟩ = some (.int .i64 x183002_6) := (blk_cell BK182.out 2).trans rfl; have hcz66_3 : w63.cell? ⟨gb182, 3, none⟩ = some (.string x183003_6) := (blk_cell BK182.out 3).trans rfl; have hcz66_4 : w63.cell? ⟨gb182, 4, none⟩ = some (.int .i64 (wrap64 (1 + t180))) := (blk_cell BK182.out 4).trans rfl; have hfz66_0 := blk_frozen BK182.out 0; have hfz66_1 := blk_frozen BK182.out 1; have hfz66_2 := blk_frozen BK182.out 2; have hfz66_3 := blk_frozen BK182.out 3; have hfz66_4 := blk_frozen BK182.out 4; have hnb67 := NB175_0.out; have hnc67 := NB0_175.out; have hcz68_0 : w63.cell? ⟨gb175, 0, none⟩ = some (.string (⟨#[]⟩ : ByteArray)) := (blk_cell BK175.out 0).trans rfl; have hcz68_1 : w63.cell? ⟨gb175, 1, none⟩ = some (.int .i64 0) := (blk_cell BK175.out 1).trans rfl; have hcz68_2 : w63.cell? ⟨gb175, 2, none⟩ = some (.int .i64 0) := (blk_cell BK175.out 2).trans rfl; have hcz68_3 : w63.cell? ⟨gb175, 3, none⟩ = some (.string (⟨#[]⟩ : ByteArray)) := (blk_cell BK175.out 3).trans rfl; have hcz68_4 : w63.cell? ⟨gb175, 4, none⟩ = some (.int .i64 0) := (blk_cell BK175.out 4).trans rfl; have hfz68_0 := blk_frozen BK175.out 0; have hfz68_1 := blk_frozen BK175.out 1; have hfz68_2 := blk_frozen BK175.out 2; have hfz68_3 := blk_frozen BK175.out 3; have hfz68_4 := blk_frozen BK175.out 4))
              refine bodyPost_ret (results_cell_row rfl _ _ gb175 26 #[.string t176, .int .i64 x183001_6, .int .i64 x183002_6, .string (⟨#[120, 32, 121]⟩ : ByteArray), .int .i64 (wrap64 (1 + t180))] (0, 0) _ rfl (by (with_reducible repeat (first | refine blk_drewN ?_ _ | refine blk_drew ?_ | refine blk_alloc ?_ _)); refine blk_put (cs := #[.string t176, .int .i64 x183001_6, .int .i64 x183002_6, .string (⟨#[120, 32, 121]⟩ : ByteArray), .int .i64 0]) ?_ 4 _ rfl; (with_reducible repeat (first | refine blk_drewN ?_ _ | refine blk_drew ?_ | refine blk_alloc ?_ _)); refine blk_put (cs := #[.string t176, .int .i64 x183001_6, .int .i64 x183002_6, .string (⟨#[]⟩ : ByteArray), .int .i64 0]) ?_ 3 _ rfl; (with_reducible repeat (first | refine blk_drewN ?_ _ | refine blk_drew ?_ | refine blk_alloc ?_ _)); refine blk_put (cs := #[.string t176, .int .i64 x183001_6, .int .i64 0, .string (⟨#[]⟩ : ByteArray), .int .i64 0]) ?_ 2 _ rfl; (with_reducible repeat (first | refine blk_drewN ?_ _ | refine blk_drew ?_ | refine blk_alloc ?_ _)); refine blk_put (cs := #[.string t176, .int .i64 0, .int .i64 0, .string (⟨#[]⟩ : ByteArray), .int .i64 0]) ?_ 1 _ rfl; (with_reducible repeat (first | refine blk_drewN ?_ _ | refine blk_drew ?_ | refine blk_alloc ?_ _)); refine blk_put (cs := #[.string (⟨#[]⟩ : ByteArray), .int .i64 0, .int .i64 0, .string (⟨#[]⟩ : ByteArray), .int .i64 0]) ?_ 0 _ rfl; (with_reducible repeat (first | refine blk_drewN ?_ _ | refine blk_drew ?_ | refine blk_alloc ?_ _)); refine blk_far ?_ NB175_182.out _; (with_reducible repeat (first | refine blk_drewN ?_ _ | refine blk_drew ?_ | refine blk_alloc ?_ _)); exact BK175.out) Try.underlying26 rfl (z_0)) rfl ?_
              exact ⟨z_7, z_38, z_39, z_40⟩
      · replace c25 := Bool.eq_false_iff.mpr c25
        subst c25
        rw [if_neg (show ¬ (false = true) by decide)] at H
        simp only [Option.some.injEq, Prod.mk.injEq] at H
        obtain ⟨rfl, rfl, rfl, rfl, rfl, rfl⟩ := H
        go_wp2_with (first | ((with_reducible refine gate_callee (f := 78) rfl ?_); refine goesL_ (some 24) rfl rfl Try.func78 (z_0) rfl #[.pointer (some ⟨g, 0, none⟩), .int .i64 a1] rfl (z_10) ?_; (with_reducible refine (spec_l20Rd_odd.calls kj6 g s0_0 x1001_6 a1 false t188 w0 _ ?side1 ?side2 A24.out).mono ?_); (case side1 => exact z_38); (case side2 => exact z_39); rintro e w69 ⟨rfl, hi, hb, hk⟩; refine ⟨_, rfl, ?_⟩; have n0_ := Aside0.mk (KeepBut.blk hk (g' := gb175) (o := .cells #[.string (⟨#[]⟩ : ByteArray), .int .i64 0, .int .i64 0, .string (⟨#[]⟩ : ByteArray), .int .i64 0] 26 (0, 0)) (z_35) NB175_0.out (z_9)); have n1_ := Aside0.mk (KeepBut.blk hk (g' := gb182) (o := .cells #[.string t176, .int .i64 x183001_6, .int .i64 x183002_6, .string x183003_6, .int .i64 (wrap64 (1 + t180))] 26 (0, 0)) (z_41) NB182_0.out (z_9)); have n2_ := Aside0.mk (KeepBut.trans (z_40) hk (.inl rfl)); have n3_ := Aside0.mk (hb); have n4_ := Aside0.mk (hi); clear BK175; clear BK182; clear HK; clear HB; clear HI0; have BK175 := n0_; have BK182 := n1_; have HK := n2_; have HB := n3_; have HI0 := n4_; clear n0_ n1_ n2_ n3_ n4_; (try clear hb); (try clear hb2); (try clear hk); (try clear hi); have hnb70 := NB182_175.out; have hnc70 := NB175_182.out; have hnb71 := NB182_0.out; have hnc71 := NB0_182.out; have hcz72_0 : w69.cell? ⟨gb182, 0, none⟩ = some (.string t176) := (blk_cell BK182.out 0).trans rfl; have hcz72_1 : w69.cell? ⟨gb182, 1, none⟩ = some (.int .i64 x183001_6) := (blk_cell BK182.out 1).trans rfl; have hcz72_2 : w69.cell? ⟨gb182, 2, none⟩ = some (.int .i64 x183002_6) := (blk_cell BK182.out 2).trans rfl; have hcz72_3 : w69.cell? ⟨gb182, 3, none⟩ = some (.string x183003_6) := (blk_cell BK182.out 3).trans rfl; have hcz72_4 : w69.cell? ⟨gb182, 4, none⟩ = some (.int .i64 (wrap64 (1 + t180))) := (blk_cell BK182.out 4).trans rfl; have hfz72_0 := blk_frozen BK182.out 0; have hfz72_1 := blk_frozen BK182.out 1; have hfz72_2 := blk_frozen BK182.out 2; have hfz72_3 := blk_frozen BK182.out 3; have hfz72_4 := blk_frozen BK182.out 4; have hnb73 := NB175_0.out; have hnc73 := NB0_175.out; have hcz74_0 : w69.cell? ⟨gb175, 0, none⟩ = some (.string (⟨#[]⟩ : ByteArray)) := (blk_cell BK175.out 0).trans rfl; have hcz74_1 : w69.cell? ⟨gb175, 1, none⟩ = some (.int .i64 0) := (blk_cell BK175.out 1).trans rfl; have hcz74_2 : w69.cell? ⟨gb175, 2, none⟩ = some (.int .i64 0) := (blk_cell BK175.out 2).trans rfl; have hcz74_3 : w69.cell? ⟨gb175, 3, none⟩ = some (.string (⟨#[]⟩ : ByteArray)) := (blk_cell BK175.out 3).trans rfl; have hcz74_4 : w69.cell? ⟨gb175, 4, none⟩ = some (.int .i64 0) := (blk_cell BK175.out 4).trans rfl; have hfz74_0 := blk_frozen BK175.out 0; have hfz74_1 := blk_frozen BK175.out 1; have hfz74_2 := blk_frozen BK175.out 2; have hfz74_3 := blk_frozen BK175.out 3; have hfz74_4 := blk_frozen BK175.out 4))
        refine bodyPost_ret (results_cell_row rfl _ _ gb175 26 #[.string t176, .int .i64 x183001_6, .int .i64 x183002_6, .string x183003_6, .int .i64 (wrap64 (1 + t180))] (0, 0) _ rfl (by (with_reducible repeat (first | refine blk_drewN ?_ _ | refine blk_drew ?_ | refine blk_alloc ?_ _)); refine blk_put (cs := #[.string t176, .int .i64 x183001_6, .int .i64 x183002_6, .string x183003_6, .int .i64 0]) ?_ 4 _ rfl; (with_reducible repeat (first | refine blk_drewN ?_ _ | refine blk_drew ?_ | refine blk_alloc ?_ _)); refine blk_put (cs := #[.string t176, .int .i64 x183001_6, .int .i64 x183002_6, .string (⟨#[]⟩ : ByteArray), .int .i64 0]) ?_ 3 _ rfl; (with_reducible repeat (first | refine blk_drewN ?_ _ | refine blk_drew ?_ | refine blk_alloc ?_ _)); refine blk_put (cs := #[.string t176, .int .i64 x183001_6, .int .i64 0, .string (⟨#[]⟩ : ByteArray), .int .i64 0]) ?_ 2 _ rfl; (with_reducible repeat (first | refine blk_drewN ?_ _ | refine blk_drew ?_ | refine blk_alloc ?_ _)); refine blk_put (cs := #[.string t176, .int .i64 0, .int .i64 0, .string (⟨#[]⟩ : ByteArray), .int .i64 0]) ?_ 1 _ rfl; (with_reducible repeat (first | refine blk_drewN ?_ _ | refine blk_drew ?_ | refine blk_alloc ?_ _)); refine blk_put (cs := #[.string (⟨#[]⟩ : ByteArray), .int .i64 0, .int .i64 0, .string (⟨#[]⟩ : ByteArray), .int .i64 0]) ?_ 0 _ rfl; (with_reducible repeat (first | refine blk_drewN ?_ _ | refine blk_drew ?_ | refine blk_alloc ?_ _)); exact BK175.out) Try.underlying26 rfl (z_0)) rfl ?_
        exact ⟨z_7, z_38, z_39, z_40⟩

/-! ### spec_l20Names: function 62 -/
def spec_l20Names.l0 : Nat → Int → List (S26) → List ByteArray → Int → Int → List Int → Int → Option ((List (S26)) × Int)
  | 0, _, _, _, _, _, _, _ => none
  | k + 1, x1, x5, x10, x11, x12, x1000, x1001 => if x12 < x11 then (if 0 ≤ x12 then (if x12 < (x10.length : Int) then ((spec_l20Rd_pick.f k x1000 x1001 3).bind fun bt208 => (if bt208.1 > 0 then ((spec_l20Name.f k x1000 bt208.2 0).bind fun bt210 => (if x5.length < 2513169434916 then (spec_l20Names.l0 k x1 (x5 ++ [(⟨rdOf ByteArray.empty x10 x12, bt210.2.1, bt210.2.2.1, bt210.2.2.2.1, bt210.2.2.2.2.1⟩ : S26)]) x10 x11 (wrap64 (x12 + 1)) x1000 bt210.2.2.2.2.2) else (none))) else (spec_l20Names.l0 k x1 x5 x10 x11 (wrap64 (x12 + 1)) x1000 bt208.2))) else (none)) else (none)) else ((spec_l20Rd_odd.f k x1000 x1001 x1).bind fun bt220 => (if bt220.1 = true then ((spec_l20Name.f k x1000 bt220.2 1).bind fun bt222 => (if x5.length < 2513169434916 then (some ((x5 ++ [(⟨bt222.1, bt222.2.1, bt222.2.2.1, bt222.2.2.2.1, bt222.2.2.2.2.1⟩ : S26)]), bt222.2.2.2.2.2)) else (none))) else (some (x5, bt220.2))))
def spec_l20Names.f (k : Nat) (s0_0 : List Int) (s0_1 : Int) (a1 : Int) : Option ((List (S26)) × Int) := (some (([(⟨#[97]⟩ : ByteArray), (⟨#[98]⟩ : ByteArray), (⟨#[99]⟩ : ByteArray), (⟨#[100, 100]⟩ : ByteArray), (⟨#[101, 101]⟩ : ByteArray), (⟨#[102]⟩ : ByteArray), (⟨#[103, 103]⟩ : ByteArray)] : List ByteArray) : List ByteArray)).bind fun y204 => (spec_l20Names.l0 k a1 (([] : List (S26))) y204 (y204.length : Int) 0 s0_0 s0_1)
theorem spec_l20Names.mono_l : ∀ k, (∀ y0 y1 y2 y3 y4 y5 y6, LeO (spec_l20Names.l0 k y0 y1 y2 y3 y4 y5 y6) (spec_l20Names.l0 (k + 1) y0 y1 y2 y3 y4 y5 y6))
  | 0 => fun _ _ _ _ _ _ _ r h => by simp [spec_l20Names.l0] at h
  | k + 1 => by
    have ih0 := spec_l20Names.mono_l k
    · intro y0 y1 y2 y3 y4 y5 y6
      unfold spec_l20Names.l0
      repeat' first
      | (with_reducible exact ih0 _ _ _ _ _ _ _)
      | (with_reducible exact spec_l20Name.mono _ _ _ _)
      | (with_reducible exact spec_l20Rd_odd.mono _ _ _ _)
      | (with_reducible exact spec_l20Rd_pick.mono _ _ _ _)
      | (with_reducible exact LeO.refl _)
      | (with_reducible exact LeO.none _)
      | (with_reducible refine LeO.ite ?_ ?_)
      | (with_reducible refine LeO.bind ?_ (fun _ => ?_))
      | exact ih0 _ _ _ _ _ _ _
      | exact spec_l20Name.mono _ _ _ _
      | exact spec_l20Rd_odd.mono _ _ _ _
      | exact spec_l20Rd_pick.mono _ _ _ _
      | exact LeO.none _
      | refine LeO.ite ?_ ?_
      | refine LeO.bind ?_ (fun _ => ?_)
theorem spec_l20Names.mono : ∀ a0 a1 a2 k, LeO (spec_l20Names.f k a0 a1 a2) (spec_l20Names.f (k + 1) a0 a1 a2) := by
  intro a0 a1 a2 k
  have ih0 := spec_l20Names.mono_l k
  unfold spec_l20Names.f
  repeat' first
      | (with_reducible exact ih0 _ _ _ _ _ _ _)
      | (with_reducible exact spec_l20Name.mono _ _ _ _)
      | (with_reducible exact spec_l20Rd_odd.mono _ _ _ _)
      | (with_reducible exact spec_l20Rd_pick.mono _ _ _ _)
      | (with_reducible exact LeO.refl _)
      | (with_reducible exact LeO.none _)
      | (with_reducible refine LeO.ite ?_ ?_)
      | (with_reducible refine LeO.bind ?_ (fun _ => ?_))
      | exact ih0 _ _ _ _ _ _ _
      | exact spec_l20Name.mono _ _ _ _
      | exact spec_l20Rd_odd.mono _ _ _ _
      | exact spec_l20Rd_pick.mono _ _ _ _
      | exact LeO.none _
      | refine LeO.ite ?_ ?_
      | refine LeO.bind ?_ (fun _ => ?_)
set_option maxHeartbeats 8000000 in
set_option maxRecDepth 100000 in
theorem spec_l20Names.calls (k : Nat) (g : Nat) (s0_0 : List Int) (s0_1 : Int) (a1 : Int) (r1 : List (S26)) (r2 : Int) (w0 w : World) (hI : IsS96 w0 w g s0_0 s0_1) (hB : Below w0.heap.size w0 w) (h : spec_l20Names.f k s0_0 s0_1 a1 = some (r1, r2)) :
    Calls Try.prog 62 #[.pointer (some ⟨g, 0, none⟩), .int .i64 a1] w fun e w' => ∃ v0_ : Value, e = .returned (v0_) ∧ Kd.R k26 26 w' w.heap.size (fun _ => True) v0_ r1 ∧ IsS96 w0 w' g s0_0 r2 ∧ Below w0.heap.size w0 w' ∧ KeepBut w w' g none := by
  have hu26 := Try.underlying26
  have HI0 := Aside0.mk hI
  have HK := Aside0.mk (KeepBut.refl w g none)
  have HL := Aside0.mk hB.size
  clear hI
  have HW0 := Aside0.mk hB.size
  have HB := Aside0.mk hB
  clear hB
  have H : ((some (([(⟨#[97]⟩ : ByteArray), (⟨#[98]⟩ : ByteArray), (⟨#[99]⟩ : ByteArray), (⟨#[100, 100]⟩ : ByteArray), (⟨#[101, 101]⟩ : ByteArray), (⟨#[102]⟩ : ByteArray), (⟨#[103, 103]⟩ : ByteArray)] : List ByteArray) : List ByteArray)).bind fun y204 => (spec_l20Names.l0 k a1 (([] : List (S26))) y204 (y204.length : Int) 0 s0_0 s0_1)) = some (r1, r2) := h
  clear h
  obtain ⟨y201, hy201⟩ : ∃ y_ : List (S26), y_ = (([] : List (S26))) := ⟨_, rfl⟩
  replace H : ((some (([(⟨#[97]⟩ : ByteArray), (⟨#[98]⟩ : ByteArray), (⟨#[99]⟩ : ByteArray), (⟨#[100, 100]⟩ : ByteArray), (⟨#[101, 101]⟩ : ByteArray), (⟨#[102]⟩ : ByteArray), (⟨#[103, 103]⟩ : ByteArray)] : List ByteArray) : List ByteArray)).bind fun y204 => (spec_l20Names.l0 k a1 y201 y204 (y204.length : Int) 0 s0_0 s0_1)) = some (r1, r2) := by first | (rw [hy201]; with_reducible exact H) | (have H2_ := (Option.bind_some _ _).symm.trans H; rw [hy201]; with_reducible exact H2_) | (have H2_ := (Option.bind_some _ _).symm.trans H; with_reducible exact H2_) | with_reducible exact H | (rw [hy201]; exact H) | exact H
  have Ny201 := Aside0.mk hy201
  clear hy201
  obtain ⟨y204, hy204⟩ : ∃ y_ : List ByteArray, y_ = (([(⟨#[97]⟩ : ByteArray), (⟨#[98]⟩ : ByteArray), (⟨#[99]⟩ : ByteArray), (⟨#[100, 100]⟩ : ByteArray), (⟨#[101, 101]⟩ : ByteArray), (⟨#[102]⟩ : ByteArray), (⟨#[103, 103]⟩ : ByteArray)] : List ByteArray)) := ⟨_, rfl⟩
  replace H : (spec_l20Names.l0 k a1 y201 y204 (y204.length : Int) 0 s0_0 s0_1) = some (r1, r2) := by first | (rw [hy204]; with_reducible exact H) | (have H2_ := (Option.bind_some _ _).symm.trans H; rw [hy204]; with_reducible exact H2_) | (have H2_ := (Option.bind_some _ _).symm.trans H; with_reducible exact H2_) | with_reducible exact H | (rw [hy204]; exact H) | exact H
  have Ny204 := Aside0.mk hy204
  clear hy204
  have H' := Aside0.mk H
  clear H
  go_enter Try.func62, Try.ntmps62
  go_wp2_with (first | ((with_reducible refine gate_dst (N := 9) rfl ?_); refine Kd.R_lit k26 _ 26 ?hg (N := 9) ?hd (xs := ([] : List (S26))) (inner := []) (ok := fun _ => True) (okp := fun _ => True) ?hr ?hp (fun _ hk => hk) trivial (Below.refl _ _) (Nat.le_refl _) (z_9) ?_; (case hd => rfl); (case hg => rfl); (case hr => exact z_11); (case hp => exact (Reps.none _ _)); intro v202 w3 ho4 hb hg_ hnew_; clear hg_ hnew_; (first | rw [← Ny201.out] at ho4 | (simp only [Int.reduceToNat] at ho4; rw [← Ny201.out] at ho4)); have n0_ := Aside0.mk (Kd.R_lower ho4 (keep_size (w := w) (g := g) (row := none) (z_30))); have n1_ := Aside0.mk (IsS96.below (z_29) hb); have n2_ := Aside0.mk (KeepBut.trans (z_30) (KeepBut.of_below hb g none) (.inl rfl)); have n3_ := Aside0.mk (below_step (z_31) hb); clear HI0; clear HK; clear HB; have HO203 := n0_; have HI0 := n1_; have HK := n2_; have HB := n3_; clear n0_ n1_ n2_ n3_; clear hb ho4) | ((with_reducible refine gate_dst (N := 10) rfl ?_); refine Kd.R_lit Kd.string _ 9 ?hg (N := 10) ?hd (xs := ([(⟨#[97]⟩ : ByteArray), (⟨#[98]⟩ : ByteArray), (⟨#[99]⟩ : ByteArray), (⟨#[100, 100]⟩ : ByteArray), (⟨#[101, 101]⟩ : ByteArray), (⟨#[102]⟩ : ByteArray), (⟨#[103, 103]⟩ : ByteArray)] : List ByteArray)) (inner := [.string (⟨#[97]⟩ : ByteArray), .string (⟨#[98]⟩ : ByteArray), .string (⟨#[99]⟩ : ByteArray), .string (⟨#[100, 100]⟩ : ByteArray), .string (⟨#[101, 101]⟩ : ByteArray), .string (⟨#[102]⟩ : ByteArray), .string (⟨#[103, 103]⟩ : ByteArray)]) (ok := fun _ => True) (okp := fun _ => True) ?hr ?hp (fun _ hk => hk) trivial (Below.refl _ _) (Nat.le_refl _) (z_9) ?_; (case hd => rfl); (case hg => rfl); (case hr => exact z_11); (case hp => exact (Reps.one (show Kd.M Kd.string _ _ _ (⟨#[97]⟩ : ByteArray) [.string (⟨#[97]⟩ : ByteArray)] from rfl) (Reps.one (show Kd.M Kd.string _ _ _ (⟨#[98]⟩ : ByteArray) [.string (⟨#[98]⟩ : ByteArray)] from rfl) (Reps.one (show Kd.M Kd.string _ _ _ (⟨#[99]⟩ : ByteArray) [.string (⟨#[99]⟩ : ByteArray)] from rfl) (Reps.one (show Kd.M Kd.string _ _ _ (⟨#[100, 100]⟩ : ByteArray) [.string (⟨#[100, 100]⟩ : ByteArray)] from rfl) (Reps.one (show Kd.M Kd.string _ _ _ (⟨#[101, 101]⟩ : ByteArray) [.string (⟨#[101, 101]⟩ : ByteArray)] from rfl) (Reps.one (show Kd.M Kd.string _ _ _ (⟨#[102]⟩ : ByteArray) [.string (⟨#[102]⟩ : ByteArray)] from rfl) (Reps.one (show Kd.M Kd.string _ _ _ (⟨#[103, 103]⟩ : ByteArray) [.string (⟨#[103, 103]⟩ : ByteArray)] from rfl) (Reps.none _ _))))))))); intro v205 w5 ho6 hb hg_ hnew_; clear hg_ hnew_; (first | rw [← Ny204.out] at ho6 | (simp only [Int.reduceToNat] at ho6; rw [← Ny204.out] at ho6)); have n0_ := Aside0.mk (Kd.R_below (z_42) hb); have n1_ := Aside0.mk (Kd.R_lower ho6 (keep_size (w := w) (g := g) (row := none) (z_30))); have n2_ := Aside0.mk (IsS96.below (z_29) hb); have n3_ := Aside0.mk (KeepBut.trans (z_30) (KeepBut.of_below hb g none) (.inl rfl)); have n4_ := Aside0.mk (below_step (z_31) hb); clear HO203; clear HI0; clear HK; clear HB; have HO203 := n0_; have HO206 := n1_; have HI0 := n2_; have HK := n3_; have HB := n4_; clear n0_ n1_ n2_ n3_ n4_; clear hb ho6; obtain ⟨Ao7, co7, eo7⟩ := Kd.R_slice HO206.out; subst eo7))
  go_loopg [5, 12] k (fun kq v5 v12 w' => ∃ (x5_1 : List (S26)) (x12_1 : Int) (x1001_1 : Int), v12 = .int .i64 x12_1 ∧ Aside0 (spec_l20Names.l0 kq a1 x5_1 y204 (y204.length : Int) x12_1 s0_0 x1001_1 = some (r1, r2)) ∧ Aside0 (kq ≤ k) ∧ Aside0 (Kd.R k26 26 w' w.heap.size (fun _ => True) v5 x5_1) ∧ Aside0 (Kd.R Kd.string 9 w' w.heap.size (fun _ => True) (.slice Ao7 y204.length co7) y204) ∧ Aside0 (IsS96 w0 w' g s0_0 x1001_1) ∧ Aside0 (KeepBut w w' g none) ∧ Aside0 (Below w0.heap.size w0 w'))
  case atStart => exact ⟨(y201), (0), (s0_1), (z_3), H', ⟨Nat.le_refl _⟩, ⟨z_42⟩, ⟨by (with_reducible repeat (first | apply Kd.R_alloc | apply Kd.R_drewN | apply Kd.R_drew)); exact HO206.out⟩, ⟨z_29⟩, ⟨z_30⟩, ⟨z_31⟩⟩
  case round =>
    clear H'
    try clear p2
    try clear c6
    obtain ⟨x5_1, x12_1, x1001_1, rfl, HA, HK1, HO_5, HO_10, HI0, HK, HB⟩ := hrel
    cases gk with
    | zero => exact absurd HA.out (by simp [spec_l20Names.l0])
    | succ k1 =>
      have H := HA.out
      clear HA
      simp only [spec_l20Names.l0] at H
      by_cases c8 : x12_1 < (y204.length : Int)
      · rw [if_pos c8] at H
        have c8b0 : decide (x12_1 < (y204.length : Int)) = true := decide_eq_true c8
        clear c8
        by_cases c9 : 0 ≤ x12_1
        · rw [if_pos c9] at H
          have c9b0 : decide (0 ≤ x12_1) = true := decide_eq_true c9
          clear c9
          by_cases c10 : x12_1 < (y204.length : Int)
          · rw [if_pos c10] at H
            have c10b0 : decide (x12_1 < (y204.length : Int)) = true := decide_eq_true c10
            clear c10
            replace H := Option.bind_eq_some_iff.mp H
            obtain ⟨⟨t208, t209⟩, A110, H⟩ := H
            replace H : (if t208 > 0 then ((spec_l20Name.f k1 s0_0 t209 0).bind fun bt210 => (if x5_1.length < 2513169434916 then (spec_l20Names.l0 k1 a1 (x5_1 ++ [(⟨rdOf ByteArray.empty y204 x12_1, bt210.2.1, bt210.2.2.1, bt210.2.2.2.1, bt210.2.2.2.2.1⟩ : S26)]) y204 (y204.length : Int) (wrap64 (x12_1 + 1)) s0_0 bt210.2.2.2.2.2) else (none))) else (spec_l20Names.l0 k1 a1 x5_1 y204 (y204.length : Int) (wrap64 (x12_1 + 1)) s0_0 t209)) = some (r1, r2) := H
            have A11 := Aside0.mk A110
            clear A110
            by_cases c12 : t208 > 0
            · rw [if_pos c12] at H
              have c12b0 : decide (0 < t208) = true := decide_eq_true c12
              clear c12
              replace H := Option.bind_eq_some_iff.mp H
              obtain ⟨⟨t210, t211, t212, t213, t214, t215⟩, A130, H⟩ := H
              replace H : (if x5_1.length < 2513169434916 then (spec_l20Names.l0 k1 a1 (x5_1 ++ [(⟨rdOf ByteArray.empty y204 x12_1, t211, t212, t213, t214⟩ : S26)]) y204 (y204.length : Int) (wrap64 (x12_1 + 1)) s0_0 t215) else (none)) = some (r1, r2) := H
              have A13 := Aside0.mk A130
              clear A130
              by_cases c14 : x5_1.length < 2513169434916
              · rw [if_pos c14] at H
                have LMc14 := Aside0.mk c14
                clear c14
                obtain ⟨y217, hy217⟩ : ∃ y_ : List (S26), y_ = (x5_1 ++ [(⟨rdOf ByteArray.empty y204 x12_1, t211, t212, t213, t214⟩ : S26)]) := ⟨_, rfl⟩
                replace H : (spec_l20Names.l0 k1 a1 y217 y204 (y204.length : Int) (wrap64 (x12_1 + 1)) s0_0 t215) = some (r1, r2) := by first | (rw [hy217]; with_reducible exact H) | (have H2_ := (Option.bind_some _ _).symm.trans H; rw [hy217]; with_reducible exact H2_) | (have H2_ := (Option.bind_some _ _).symm.trans H; with_reducible exact H2_) | with_reducible exact H | (rw [hy217]; exact H) | exact H
                have Ny217 := Aside0.mk hy217
                clear hy217
                have H' := Aside0.mk H
                clear H
                have p207 : 0 ≤ (x12_1 : Int) := of_decide_eq_true (z_6)
                have q207 : x12_1 < (y204.length : Int) := of_decide_eq_true (z_6)
                obtain ⟨ad207, e207, hx207_0⟩ := Kd.at_string (Kd.R_reads' HO_10.out).2.2 x12_1 p207 q207
                cases e207
                replace p207 := eq_true p207
                replace q207 := eq_true q207
                generalize htx_ : rdOf ByteArray.empty y204 x12_1 = tx_ at hx207_0 Ny217
                clear htx_
                go_upto_region 8 with (first | ((with_reducible refine gate_callee (f := 69) rfl ?_); refine goesL_ (some 17) rfl rfl Try.func69 (z_0) rfl #[.pointer (some ⟨g, 0, none⟩), .int .i64 3] rfl (z_10) ?_; (with_reducible refine (spec_l20Rd_pick.calls k1 g s0_0 x1001_1 3 t208 t209 w0 _ ?side1 ?side2 A11.out).mono ?_); (case side1 => exact z_29); (case side2 => exact z_31); rintro e w15 ⟨rfl, hi, hb, hk⟩; refine ⟨_, rfl, ?_⟩; have n0_ := Aside0.mk (Kd.R_mono (Kd.R_keep (IsS96.apart (show IsS96 w0 _ g s0_0 x1001_1 from z_29) (z_17) (z_16)) hk (fun _ h => h.2)) (fun _ h => h.1)); have n1_ := Aside0.mk (Kd.R_mono (Kd.R_keep (IsS96.apart (show IsS96 w0 _ g s0_0 x1001_1 from z_29) (z_43) (z_16)) hk (fun _ h => h.2)) (fun _ h => h.1)); have n2_ := Aside0.mk (KeepBut.trans (z_30) hk (.inl rfl)); have n3_ := Aside0.mk (hb); have n4_ := Aside0.mk (hi); clear HO_5; clear HO_10; clear HK; clear HB; clear HI0; have HO_5 := n0_; have HO_10 := n1_; have HK := n2_; have HB := n3_; have HI0 := n4_; clear n0_ n1_ n2_ n3_ n4_; (try clear hb); (try clear hb2); (try clear hk); (try clear hi)) | ((with_reducible refine gate_callee (f := 59) rfl ?_); refine goesL_ (some 20) rfl rfl Try.func59 (z_0) rfl #[.pointer (some ⟨g, 0, none⟩), .int .i64 0] rfl (z_10) ?_; (with_reducible refine (spec_l20Name.calls k1 g s0_0 t209 0 t210 t211 t212 t213 t214 t215 w0 _ ?side1 ?side2 A13.out).mono ?_); (case side1 => exact z_29); (case side2 => exact z_31); rintro e w16 ⟨rfl, hi, hb, hk⟩; refine ⟨_, rfl, ?_⟩; have n0_ := Aside0.mk (Kd.R_mono (Kd.R_keep (IsS96.apart (show IsS96 w0 _ g s0_0 t209 from z_29) (z_17) (z_16)) hk (fun _ h => h.2)) (fun _ h => h.1)); have n1_ := Aside0.mk (Kd.R_mono (Kd.R_keep (IsS96.apart (show IsS96 w0 _ g s0_0 t209 from z_29) (z_43) (z_16)) hk (fun _ h => h.2)) (fun _ h => h.1)); have n2_ := Aside0.mk (KeepBut.trans (z_30) hk (.inl rfl)); have n3_ := Aside0.mk (hb); have n4_ := Aside0.mk (hi); clear HO_5; clear HO_10; clear HK; clear HB; clear HI0; have HO_5 := n0_; have HO_10 := n1_; have HK := n2_; have HB := n3_; have HI0 := n4_; clear n0_ n1_ n2_ n3_ n4_; (try clear hb); (try clear hb2); (try clear hk); (try clear hi)) | ((with_reducible refine gate_dst (N := 8) rfl ?_); refine box_event ?hg (N := 8) ?hd (cs := #[.string (⟨#[]⟩ : ByteArray), .int .i64 0, .int .i64 0, .string (⟨#[]⟩ : ByteArray), .int .i64 0]) (t := 26) ?hr ?_; (case hd => rfl); (case hg => rfl); (case hr => exact z_11); intro gb216 hg w17 hbox hb; have n0_ := Aside0.mk (Kd.R_below (Kd.R_elderB (z_17) gb216 (Nat.le_of_eq hg.symm)) hb); have n1_ := Aside0.mk (Kd.R_below (z_43) hb); have n2_ := Aside0.mk (IsS96.below (z_29) hb); have n3_ := Aside0.mk (KeepBut.trans (z_30) (KeepBut.of_below hb g none) (.inl rfl)); have n4_ := Aside0.mk (below_step (z_31) hb); have n5_ := Aside0.mk (hbox); have n6_ := Aside0.mk ((z_32 : w.heap.size ≤ gb216)); have n7_ := Aside0.mk ((Nat.le_trans HW0.out (z_32 : w.heap.size ≤ gb216) : w0.heap.size ≤ gb216)); have n8_ := Aside0.mk ((by rw [hg]; exact Nat.ne_of_lt (IsS96.lt (show IsS96 w0 _ g s0_0 t215 from z_29)) : g ≠ gb216)); have n9_ := Aside0.mk ((by rw [hg]; exact Nat.ne_of_gt (IsS96.lt (show IsS96 w0 _ g s0_0 t215 from z_29)) : gb216 ≠ g)); clear HO_5; clear HO_10; clear HI0; clear HK; clear HB; have HO_5 := n0_; have HO_10 := n1_; have HI0 := n2_; have HK := n3_; have HB := n4_; have BK216 := n5_; have GW216 := n6_; have GE216 := n7_; have NB0_216 := n8_; have NB216_0 := n9_; clear n0_ n1_ n2_ n3_ n4_ n5_ n6_ n7_ n8_ n9_; clear hb hbox hg; have hnb18 := NB216_0.out; have hnc18 := NB0_216.out; have hcz19_0 : w17.cell? ⟨gb216, 0, none⟩ = some (.string (⟨#[]⟩ : ByteArray)) := (blk_cell BK216.out 0).trans rfl; have hcz19_1 : w17.cell? ⟨gb216, 1, none⟩ = some (.int .i64 0) := (blk_cell BK216.out 1).trans rfl; have hcz19_2 : w17.cell? ⟨gb216, 2, none⟩ = some (.int .i64 0) := (blk_cell BK216.out 2).trans rfl; have hcz19_3 : w17.cell? ⟨gb216, 3, none⟩ = some (.string (⟨#[]⟩ : ByteArray)) := (blk_cell BK216.out 3).trans rfl; have hcz19_4 : w17.cell? ⟨gb216, 4, none⟩ = some (.int .i64 0) := (blk_cell BK216.out 4).trans rfl; have hfz19_0 := blk_frozen BK216.out 0; have hfz19_1 := blk_frozen BK216.out 1; have hfz19_2 := blk_frozen BK216.out 2; have hfz19_3 := blk_frozen BK216.out 3; have hfz19_4 := blk_frozen BK216.out 4))
                obtain ⟨w18, hw18_⟩ : ∃ w_ : World, w_ = ((((((w17.setCell ⟨gb216, 0, none⟩ (.string t210)).setCell ⟨gb216, 1, none⟩ (.int .i64 t211)).setCell ⟨gb216, 2, none⟩ (.int .i64 t212)).setCell ⟨gb216, 3, none⟩ (.string t213)).setCell ⟨gb216, 4, none⟩ (.int .i64 t214)).setCell ⟨gb216, 0, none⟩ (.string (tx_))) := ⟨_, rfl⟩
                have nb_ := Aside0.mk (show w18.heap[gb216]? = some (.cells #[.string (tx_), .int .i64 t211, .int .i64 t212, .string t213, .int .i64 t214] 26 (0, 0)) by rw [hw18_]; (with_reducible repeat (first | refine blk_drewN ?_ _ | refine blk_drew ?_ | refine blk_alloc ?_ _)); refine blk_put (cs := #[.string t210, .int .i64 t211, .int .i64 t212, .string t213, .int .i64 t214]) ?_ 0 _ rfl; (with_reducible repeat (first | refine blk_drewN ?_ _ | refine blk_drew ?_ | refine blk_alloc ?_ _)); refine blk_put (cs := #[.string t210, .int .i64 t211, .int .i64 t212, .string t213, .int .i64 0]) ?_ 4 _ rfl; (with_reducible repeat (first | refine blk_drewN ?_ _ | refine blk_drew ?_ | refine blk_alloc ?_ _)); refine blk_put (cs := #[.string t210, .int .i64 t211, .int .i64 t212, .string (⟨#[]⟩ : ByteArray), .int .i64 0]) ?_ 3 _ rfl; (with_reducible repeat (first | refine blk_drewN ?_ _ | refine blk_drew ?_ | refine blk_alloc ?_ _)); refine blk_put (cs := #[.string t210, .int .i64 t211, .int .i64 0, .string (⟨#[]⟩ : ByteArray), .int .i64 0]) ?_ 2 _ rfl; (with_reducible repeat (first | refine blk_drewN ?_ _ | refine blk_drew ?_ | refine blk_alloc ?_ _)); refine blk_put (cs := #[.string t210, .int .i64 0, .int .i64 0, .string (⟨#[]⟩ : ByteArray), .int .i64 0]) ?_ 1 _ rfl; (with_reducible repeat (first | refine blk_drewN ?_ _ | refine blk_drew ?_ | refine blk_alloc ?_ _)); refine blk_put (cs := #[.string (⟨#[]⟩ : ByteArray), .int .i64 0, .int .i64 0, .string (⟨#[]⟩ : ByteArray), .int .i64 0]) ?_ 0 _ rfl; (with_reducible repeat (first | refine blk_drewN ?_ _ | refine blk_drew ?_ | refine blk_alloc ?_ _)); exact BK216.out)
                have n5_ := Aside0.mk (show Kd.R k26 26 w18 w.heap.size (fun k_ => k_ ≠ gb216) u5 x5_1 by rw [hw18_]; exact Kd.R_mono (Kd.R_far (p := ⟨gb216, 0, none⟩) (Kd.R_far (p := ⟨gb216, 4, none⟩) (Kd.R_far (p := ⟨gb216, 3, none⟩) (Kd.R_far (p := ⟨gb216, 2, none⟩) (Kd.R_far (p := ⟨gb216, 1, none⟩) (Kd.R_far (p := ⟨gb216, 0, none⟩) (Kd.R_mono HO_5.out (fun k_ hk => (⟨hk, hk.2⟩ : _ ∧ k_ ≠ gb216))) (fun _ hk => hk.2) (.string t210)) (fun _ hk => hk.2) (.int .i64 t211)) (fun _ hk => hk.2) (.int .i64 t212)) (fun _ hk => hk.2) (.string t213)) (fun _ hk => hk.2) (.int .i64 t214)) (fun _ hk => hk.2) (.string (tx_))) (fun _ hk => hk.1.2))
                have n10_ := Aside0.mk (show Kd.R Kd.string 9 w18 w.heap.size (fun _ => True) _ y204 by rw [hw18_]; exact (Kd.R_mono (Kd.R_far (p := ⟨gb216, 0, none⟩) (Kd.R_far (p := ⟨gb216, 4, none⟩) (Kd.R_far (p := ⟨gb216, 3, none⟩) (Kd.R_far (p := ⟨gb216, 2, none⟩) (Kd.R_far (p := ⟨gb216, 1, none⟩) (Kd.R_far (p := ⟨gb216, 0, none⟩) (Kd.R_types HO_10.out BK216.out (z_16)) (fun _ hk => hk.2) (.string t210)) (fun _ hk => hk.2) (.int .i64 t211)) (fun _ hk => hk.2) (.int .i64 t212)) (fun _ hk => hk.2) (.string t213)) (fun _ hk => hk.2) (.int .i64 t214)) (fun _ hk => hk.2) (.string (tx_))) (fun _ h_ => h_.1)))
                have ni_ := Aside0.mk (show IsS96 w0 w18 g s0_0 t215 by rw [hw18_]; repeat (first | (with_reducible first | exact HI0.out | apply IsS96.alloc | apply IsS96.drewN | apply IsS96.drew | apply IsS96.set_1 | refine IsS96.far ?_ NB0_216.out _) | exact HI0.out))
                have nk_ := Aside0.mk (show KeepBut w w18 g none by rw [hw18_]; repeat (first | (with_reducible first | exact HK.out | apply KeepBut.set_ | apply keep_drewN | apply keep_drew | apply keep_alloc | refine keep_far ?_ GW216.out _) | exact HK.out))
                have nw_ := Aside0.mk (show Below w0.heap.size w0 w18 by rw [hw18_]; repeat (first | (with_reducible first | exact HB.out | apply below_alloc | apply pw_below_drewN | apply below_drew1 | refine below_set ?_ (IsS96.ge HI0.out) | refine below_set ?_ GE216.out) | exact HB.out))
                rw [← hw18_]
                clear hw18_ HO_5 HO_10 HI0 HK HB BK216
                clear hcz19_0
                clear hcz19_1
                clear hcz19_2
                clear hcz19_3
                clear hcz19_4
                clear hfz19_0
                clear hfz19_1
                clear hfz19_2
                clear hfz19_3
                clear hfz19_4
                have BK216 := nb_
                have HO_5 := n5_
                have HO_10 := n10_
                have HI0 := ni_
                have HK := nk_
                have HB := nw_
                clear nb_ n5_ n10_ ni_ nk_ nw_
                have hcz_0 : w18.cell? ⟨gb216, 0, none⟩ = some (.string (tx_)) := (blk_cell BK216.out 0).trans rfl
                have hfz_0 := blk_frozen BK216.out 0
                have hcz_1 : w18.cell? ⟨gb216, 1, none⟩ = some (.int .i64 t211) := (blk_cell BK216.out 1).trans rfl
                have hfz_1 := blk_frozen BK216.out 1
                have hcz_2 : w18.cell? ⟨gb216, 2, none⟩ = some (.int .i64 t212) := (blk_cell BK216.out 2).trans rfl
                have hfz_2 := blk_frozen BK216.out 2
                have hcz_3 : w18.cell? ⟨gb216, 3, none⟩ = some (.string t213) := (blk_cell BK216.out 3).trans rfl
                have hfz_3 := blk_frozen BK216.out 3
                have hcz_4 : w18.cell? ⟨gb216, 4, none⟩ = some (.int .i64 t214) := (blk_cell BK216.out 4).trans rfl
                have hfz_4 := blk_frozen BK216.out 4
                go_wp2_with (first | ((with_reducible refine gate_builtin (b := .append) (xs := #[.tmp 23, .tmp 25]) rfl ?_); at_builtin; refine Kd.R_append k26 w.heap.size rfl (.tmp 23) (.tmp 25) 36 26 (.agg #[(.string ⟨#[]⟩), (.int .i64 0), (.int .i64 0), (.string ⟨#[]⟩), (.int .i64 0)]) 56 rfl Try.underlying36 info26 rfl (z_16) (by omega) u5 x5_1 (⟨tx_, t211, t212, t213, t214⟩ : S26) [.string (tx_), .int .i64 t211, .int .i64 t212, .string t213, .int .i64 t214] (fun k_ => k_ ≠ gb216) (fun _ => False) rfl (z_11) ?aP (fun _ hk => hk.elim) ?aF ?aO (Below.refl _ _) ?aS ?aL ?_; (case aP => exact k26_mkM _ _ _ (⟨tx_, t211, t212, t213, t214⟩ : S26)); (case aF => exact (fun k_ hk => Kd.freshB (g := gb216) (o := .cells #[.string (tx_), .int .i64 t211, .int .i64 t212, .string t213, .int .i64 t214] 26 (0, 0)) (z_44) k_ hk)); (case aO => exact z_45); (case aS => exact (keep_size (w := w) (g := g) (row := none) (z_46))); (case aL => have := LMc14.out; omega); intro v218 w20 ho hb hg hat; rw [← Ny217.out] at ho; have n0_ := Aside0.mk (Kd.R_over' (z_43) (Kd.R_typed (z_17)) (z_16) hg); have n1_ := Aside0.mk (IsS96.grown (z_47) hg (IsS96.own_ne HI0.out HO_5.out (z_16))); have n2_ := Aside0.mk (blk_grown (g := gb216) (o := .cells #[.string (tx_), .int .i64 t211, .int .i64 t212, .string t213, .int .i64 t214] 26 (0, 0)) (z_44) hg (Kd.R_away HO_5.out (fun _ hk => hk))); have n3_ := Aside0.mk (below_weaken (z_48) HL.out hb); have n4_ := Aside0.mk (KeepBut.trans (z_46) (KeepBut.of_grown hg g) (Kd.R_base2 HO_5.out)); have n5_ := Aside0.mk (ho); clear HO_10; clear HI0; clear BK216; clear HB; clear HK; clear HO_5; have HO_10 := n0_; have HI0 := n1_; have BK216 := n2_; have HB := n3_; have HK := n4_; have HO219 := n5_; clear n0_ n1_ n2_ n3_ n4_ n5_; clear ho hb hg hat))
                go_roundg k1
                case measure => have := HK1.out; omega
                case rel => exact ⟨(y217), (wrap64 (x12_1 + 1)), (t215), (z_3), H', ⟨z_8⟩, ⟨by (with_reducible repeat (first | apply Kd.R_alloc | apply Kd.R_drewN | apply Kd.R_drew)); exact Kd.R_mono HO219.out (fun _ hk => trivial)⟩, ⟨z_43⟩, ⟨z_47⟩, ⟨z_46⟩, ⟨z_48⟩⟩
              · rw [if_neg c14] at H
                exact absurd H (z_9)
            · rw [if_neg c12] at H
              have c12b0 : decide (0 < t208) = false := decide_eq_false c12
              clear c12
              have H' := Aside0.mk H
              clear H
              have p207 : 0 ≤ (x12_1 : Int) := of_decide_eq_true (z_6)
              have q207 : x12_1 < (y204.length : Int) := of_decide_eq_true (z_6)
              obtain ⟨ad207, e207, hx207_0⟩ := Kd.at_string (Kd.R_reads' HO_10.out).2.2 x12_1 p207 q207
              cases e207
              replace p207 := eq_true p207
              replace q207 := eq_true q207
              go_wp2_with (first | ((with_reducible refine gate_callee (f := 69) rfl ?_); refine goesL_ (some 17) rfl rfl Try.func69 (z_0) rfl #[.pointer (some ⟨g, 0, none⟩), .int .i64 3] rfl (z_10) ?_; (with_reducible refine (spec_l20Rd_pick.calls k1 g s0_0 x1001_1 3 t208 t209 w0 _ ?side1 ?side2 A11.out).mono ?_); (case side1 => exact z_29); (case side2 => exact z_31); rintro e w21 ⟨rfl, hi, hb, hk⟩; refine ⟨_, rfl, ?_⟩; have n0_ := Aside0.mk (Kd.R_mono (Kd.R_keep (IsS96.apart (show IsS96 w0 _ g s0_0 x1001_1 from z_29) (z_17) (z_16)) hk (fun _ h => h.2)) (fun _ h => h.1)); have n1_ := Aside0.mk (Kd.R_mono (Kd.R_keep (IsS96.apart (show IsS96 w0 _ g s0_0 x1001_1 from z_29) (z_43) (z_16)) hk (fun _ h => h.2)) (fun _ h => h.1)); have n2_ := Aside0.mk (KeepBut.trans (z_30) hk (.inl rfl)); have n3_ := Aside0.mk (hb); have n4_ := Aside0.mk (hi); clear HO_5; clear HO_10; clear HK; clear HB; clear HI0; have HO_5 := n0_; have HO_10 := n1_; have HK := n2_; have HB := n3_; have HI0 := n4_; clear n0_ n1_ n2_ n3_ n4_; (try clear hb); (try clear hb2); (try clear hk); (try clear hi)))
              go_roundg k1
              case measure => have := HK1.out; omega
              case rel => exact ⟨(x5_1), (wrap64 (x12_1 + 1)), (t209), (z_3), H', ⟨z_8⟩, ⟨z_17⟩, ⟨z_43⟩, ⟨z_29⟩, ⟨z_30⟩, ⟨z_31⟩⟩
          · rw [if_neg c10] at H
            exact absurd H (z_9)
        · rw [if_neg c9] at H
          exact absurd H (z_9)
      · rw [if_neg c8] at H
        have c8b0 : decide (x12_1 < (y204.length : Int)) = false := decide_eq_false c8
        clear c8
        replace H := Option.bind_eq_some_iff.mp H
        obtain ⟨⟨t220, t221⟩, A220, H⟩ := H
        replace H : (if t220 = true then ((spec_l20Name.f k1 s0_0 t221 1).bind fun bt222 => (if x5_1.length < 2513169434916 then (some ((x5_1 ++ [(⟨bt222.1, bt222.2.1, bt222.2.2.1, bt222.2.2.2.1, bt222.2.2.2.2.1⟩ : S26)]), bt222.2.2.2.2.2)) else (none))) else (some (x5_1, t221))) = some (r1, r2) := H
        have A22 := Aside0.mk A220
        clear A220
        by_cases c23 : t220 = true
        · subst c23
          rw [if_pos rfl] at H
          replace H := Option.bind_eq_some_iff.mp H
          obtain ⟨⟨t222, t223, t224, t225, t226, t227⟩, A240, H⟩ := H
          replace H : (if x5_1.length < 2513169434916 then (some ((x5_1 ++ [(⟨t222, t223, t224, t225, t226⟩ : S26)]), t227)) else (none)) = some (r1, r2) := H
          have A24 := Aside0.mk A240
          clear A240
          by_cases c25 : x5_1.length < 2513169434916
          · rw [if_pos c25] at H
            have LMc25 := Aside0.mk c25
            clear c25
            obtain ⟨y228, hy228⟩ : ∃ y_ : List (S26), y_ = (x5_1 ++ [(⟨t222, t223, t224, t225, t226⟩ : S26)]) := ⟨_, rfl⟩
            replace H : (some (y228, t227)) = some (r1, r2) := by first | (rw [hy228]; with_reducible exact H) | (have H2_ := (Option.bind_some _ _).symm.trans H; rw [hy228]; with_reducible exact H2_) | (have H2_ := (Option.bind_some _ _).symm.trans H; with_reducible exact H2_) | with_reducible exact H | (rw [hy228]; exact H) | exact H
            have Ny228 := Aside0.mk hy228
            clear hy228
            simp only [Option.some.injEq, Prod.mk.injEq] at H
            obtain ⟨rfl, rfl⟩ := H
            go_wp2_with (first | ((with_reducible refine gate_callee (f := 78) rfl ?_); refine goesL_ (some 30) rfl rfl Try.func78 (z_0) rfl #[.pointer (some ⟨g, 0, none⟩), .int .i64 a1] rfl (z_10) ?_; (with_reducible refine (spec_l20Rd_odd.calls k1 g s0_0 x1001_1 a1 true t221 w0 _ ?side1 ?side2 A22.out).mono ?_); (case side1 => exact z_29); (case side2 => exact z_31); rintro e w26 ⟨rfl, hi, hb, hk⟩; refine ⟨_, rfl, ?_⟩; have n0_ := Aside0.mk (Kd.R_mono (Kd.R_keep (IsS96.apart (show IsS96 w0 _ g s0_0 x1001_1 from z_29) (z_17) (z_16)) hk (fun _ h => h.2)) (fun _ h => h.1)); have n1_ := Aside0.mk (Kd.R_mono (Kd.R_keep (IsS96.apart (show IsS96 w0 _ g s0_0 x1001_1 from z_29) (z_43) (z_16)) hk (fun _ h => h.2)) (fun _ h => h.1)); have n2_ := Aside0.mk (KeepBut.trans (z_30) hk (.inl rfl)); have n3_ := Aside0.mk (hb); have n4_ := Aside0.mk (hi); clear HO_5; clear HO_10; clear HK; clear HB; clear HI0; have HO_5 := n0_; have HO_10 := n1_; have HK := n2_; have HB := n3_; have HI0 := n4_; clear n0_ n1_ n2_ n3_ n4_; (try clear hb); (try clear hb2); (try clear hk); (try clear hi)) | ((with_reducible refine gate_callee (f := 59) rfl ?_); refine goesL_ (some 33) rfl rfl Try.func59 (z_0) rfl #[.pointer (some ⟨g, 0, none⟩), .int .i64 1] rfl (z_10) ?_; (with_reducible refine (spec_l20Name.calls k1 g s0_0 t221 1 t222 t223 t224 t225 t226 t227 w0 _ ?side1 ?side2 A24.out).mono ?_); (case side1 => exact z_29); (case side2 => exact z_31); rintro e w27 ⟨rfl, hi, hb, hk⟩; refine ⟨_, rfl, ?_⟩; have n0_ := Aside0.mk (Kd.R_mono (Kd.R_keep (IsS96.apart (show IsS96 w0 _ g s0_0 t221 from z_29) (z_17) (z_16)) hk (fun _ h => h.2)) (fun _ h => h.1)); have n1_ := Aside0.mk (Kd.R_mono (Kd.R_keep (IsS96.apart (show IsS96 w0 _ g s0_0 t221 from z_29) (z_43) (z_16)) hk (fun _ h => h.2)) (fun _ h => h.1)); have n2_ := Aside0.mk (KeepBut.trans (z_30) hk (.inl rfl)); have n3_ := Aside0.mk (hb); have n4_ := Aside0.mk (hi); clear HO_5; clear HO_10; clear HK; clear HB; clear HI0; have HO_5 := n0_; have HO_10 := n1_; have HK := n2_; have HB := n3_; have HI0 := n4_; clear n0_ n1_ n2_ n3_ n4_; (try clear hb); (try clear hb2); (try clear hk); (try clear hi)) | ((with_reducible refine gate_builtin (b := .append) (xs := #[.tmp 31, .tmp 34]) rfl ?_); at_builtin; refine Kd.R_append k26 w.heap.size rfl (.tmp 31) (.tmp 34) 36 26 (.agg #[(.string ⟨#[]⟩), (.int .i64 0), (.int .i64 0), (.string ⟨#[]⟩), (.int .i64 0)]) 56 rfl Try.underlying36 info26 rfl (z_16) (by omega) u5 x5_1 (⟨t222, t223, t224, t225, t226⟩ : S26) [.string t222, .int .i64 t223, .int .i64 t224, .string t225, .int .i64 t226] (fun _ => True) (fun _ => False) rfl rfl ?aP (fun _ hk => hk.elim) ?aF ?aO (Below.refl _ _) ?aS ?aL ?_; (case aP => exact k26_mkM _ _ _ (⟨t222, t223, t224, t225, t226⟩ : S26)); (case aF => exact (fun _ _ => trivial)); (case aO => exact z_45); (case aS => exact (keep_size (w := w) (g := g) (row := none) (z_30))); (case aL => have := LMc25.out; omega); intro v229 w28 ho hb hg hat; rw [← Ny228.out] at ho; have n0_ := Aside0.mk (Kd.R_over' (z_43) (Kd.R_typed (z_17)) (z_16) hg); have n1_ := Aside0.mk (IsS96.grown (z_29) hg (IsS96.own_ne HI0.out HO_5.out (z_16))); have n2_ := Aside0.mk (below_weaken (z_31) HL.out hb); have n3_ := Aside0.mk (KeepBut.trans (z_30) (KeepBut.of_grown hg g) (Kd.R_base2 HO_5.out)); have n4_ := Aside0.mk (ho); clear HO_10; clear HI0; clear HB; clear HK; clear HO_5; have HO_10 := n0_; have HI0 := n1_; have HB := n2_; have HK := n3_; have HO230 := n4_; clear n0_ n1_ n2_ n3_ n4_; clear ho hb hg hat))
            go_ret
            exact ⟨_, z_7, by (with_reducible repeat (first | apply Kd.R_alloc | apply Kd.R_drewN | apply Kd.R_drew)); exact HO230.out, z_29, z_31, z_30⟩
          · rw [if_neg c25] at H
            exact absurd H (z_9)
        · replace c23 := Bool.eq_false_iff.mpr c23
          subst c23
          rw [if_neg (show ¬ (false = true) by decide)] at H
          simp only [Option.some.injEq, Prod.mk.injEq] at H
          obtain ⟨rfl, rfl⟩ := H
          go_wp2_with (first | ((with_reducible refine gate_callee (f := 78) rfl ?_); refine goesL_ (some 30) rfl rfl Try.func78 (z_0) rfl #[.pointer (some ⟨g, 0, none⟩), .int .i64 a1] rfl (z_10) ?_; (with_reducible refine (spec_l20Rd_odd.calls k1 g s0_0 x1001_1 a1 false t221 w0 _ ?side1 ?side2 A22.out).mono ?_); (case side1 => exact z_29); (case side2 => exact z_31); rintro e w29 ⟨rfl, hi, hb, hk⟩; refine ⟨_, rfl, ?_⟩; have n0_ := Aside0.mk (Kd.R_mono (Kd.R_keep (IsS96.apart (show IsS96 w0 _ g s0_0 x1001_1 from z_29) (z_17) (z_16)) hk (fun _ h => h.2)) (fun _ h => h.1)); have n1_ := Aside0.mk (Kd.R_mono (Kd.R_keep (IsS96.apart (show IsS96 w0 _ g s0_0 x1001_1 from z_29) (z_43) (z_16)) hk (fun _ h => h.2)) (fun _ h => h.1)); have n2_ := Aside0.mk (KeepBut.trans (z_30) hk (.inl rfl)); have n3_ := Aside0.mk (hb); have n4_ := Aside0.mk (hi); clear HO_5; clear HO_10; clear HK; clear HB; clear HI0; have HO_5 := n0_; have HO_10 := n1_; have HK := n2_; have HB := n3_; have HI0 := n4_; clear n0_ n1_ n2_ n3_ n4_; (try clear hb); (try clear hb2); (try clear hk); (try clear hi)))
          go_ret
          exact ⟨_, z_7, z_17, z_29, z_31, z_30⟩

/-! ### spec_DrawNameAsk: function 38 -/
def spec_DrawNameAsk.f (k : Nat) (l0 : List Int) : Option ((List (S26)) × ByteArray) := (spec_l20Open.f l0).bind fun bt231 => ((spec_l20Names.f k bt231.1 bt231.2 15).bind fun bt234 => ((spec_l20Text.f k bt231.1 bt234.2).bind fun bt238 => ((spec_l20Text.f k bt231.1 bt238.2).bind fun bt240 => ((some (([bt238.1, bt240.1, (⟨#[65]⟩ : ByteArray), (⟨#[]⟩ : ByteArray)] : List ByteArray) : List ByteArray)).bind fun y242 => ((spec_l20Rd_pick.f k bt231.1 bt240.2 4).bind fun bt245 => (if 0 ≤ bt245.1 then (if bt245.1 < (y242.length : Int) then (some (bt234.1, rdOf ByteArray.empty y242 bt245.1)) else (none)) else (none)))))))
theorem spec_DrawNameAsk.mono : ∀ a0 k, LeO (spec_DrawNameAsk.f k a0) (spec_DrawNameAsk.f (k + 1) a0) := by
  intro a0 k
  unfold spec_DrawNameAsk.f
  repeat' first
      | (with_reducible exact spec_l20Names.mono _ _ _ _)
      | (with_reducible exact spec_l20Rd_pick.mono _ _ _ _)
      | (with_reducible exact spec_l20Text.mono _ _ _)
      | (with_reducible exact LeO.refl _)
      | (with_reducible exact LeO.none _)
      | (with_reducible refine LeO.ite ?_ ?_)
      | (with_reducible refine LeO.bind ?_ (fun _ => ?_))
      | exact spec_l20Names.mono _ _ _ _
      | exact spec_l20Rd_pick.mono _ _ _ _
      | exact spec_l20Text.mono _ _ _
      | exact LeO.none _
      | refine LeO.ite ?_ ?_
      | refine LeO.bind ?_ (fun _ => ?_)
def spec_DrawNameAsk.T2 : Bool × List (List Nat × List Nat) := (true, [([], []), ([0], [0]), ([], []), ([2, 1], [2]), ([], []), ([4, 3], [4]), ([3, 5], [3, 5]), ([], []), ([7, 5], [7]), ([6, 8], [6, 8]), ([9], [9]), ([1, 8, 0, 1], [1]), ([10, 11, 0, 1, 2, 3, 4, 5, 6, 7, 8, 9, 10, 11], [10])])
def spec_DrawNameAsk.B2 : List Nat := [0, 1, 0, 7, 0, 31, 63, 0, 191, 511, 1023, 447, 4095]
theorem spec_DrawNameAsk.tab2 : rtab .any (opsOf Try.f38 2) = spec_DrawNameAsk.T2 := z_0
theorem spec_DrawNameAsk.bits2 : waitsOk spec_DrawNameAsk.T2.2 spec_DrawNameAsk.B2 = true := z_0
set_option maxHeartbeats 8000000 in
set_option maxRecDepth 100000 in
theorem spec_DrawNameAsk.calls (k : Nat) (A0 : Option Addr) (c0 : Nat) (l0 : List Int) (r1 : List (S26)) (r2 : ByteArray) (w : World) (hr0 : Kd.C (Kd.int .u8) w A0 l0.length l0) (hc0 : l0.length ≤ c0) (h : spec_DrawNameAsk.f k l0 = some (r1, r2)) :
    Calls Try.prog 38 #[.slice A0 l0.length c0] w fun e w' => ∃ v0_ : Value, e = .returned (.tuple #[v0_, .string r2]) ∧ Kd.R k26 26 w' w.heap.size (fun _ => True) v0_ r1 ∧ Below w.heap.size w w' := by
  have HR0 := Aside0.mk hr0
  have HC0 := Aside0.mk hc0
  clear hr0 hc0
  have HB := Aside0.mk (Below.refl w.heap.size w)
  have H : ((spec_l20Open.f l0).bind fun bt231 => ((spec_l20Names.f k bt231.1 bt231.2 15).bind fun bt234 => ((spec_l20Text.f k bt231.1 bt234.2).bind fun bt238 => ((spec_l20Text.f k bt231.1 bt238.2).bind fun bt240 => ((some (([bt238.1, bt240.1, (⟨#[65]⟩ : ByteArray), (⟨#[]⟩ : ByteArray)] : List ByteArray) : List ByteArray)).bind fun y242 => ((spec_l20Rd_pick.f k bt231.1 bt240.2 4).bind fun bt245 => (if 0 ≤ bt245.1 then (if bt245.1 < (y242.length : Int) then (some (bt234.1, rdOf ByteArray.empty y242 bt245.1)) else (none)) else (none)))))))) = some (r1, r2) := h
  clear h
  replace H := Option.bind_eq_some_iff.mp H
  obtain ⟨⟨t231, t232⟩, A20, H⟩ := H
  replace H : ((spec_l20Names.f k t231 t232 15).bind fun bt234 => ((spec_l20Text.f k t231 bt234.2).bind fun bt238 => ((spec_l20Text.f k t231 bt238.2).bind fun bt240 => ((some (([bt238.1, bt240.1, (⟨#[65]⟩ : ByteArray), (⟨#[]⟩ : ByteArray)] : List ByteArray) : List ByteArray)).bind fun y242 => ((spec_l20Rd_pick.f k t231 bt240.2 4).bind fun bt245 => (if 0 ≤ bt245.1 then (if bt245.1 < (y242.length : Int) then (some (bt234.1, rdOf ByteArray.empty y242 bt245.1)) else (none)) else (none))))))) = some (r1, r2) := H
  have A2 := Aside0.mk A20
  clear A20
  replace H := Option.bind_eq_some_iff.mp H
  obtain ⟨⟨t234, t237⟩, A30, H⟩ := H
  replace H : ((spec_l20Text.f k t231 t237).bind fun bt238 => ((spec_l20Text.f k t231 bt238.2).bind fun bt240 => ((some (([bt238.1, bt240.1, (⟨#[65]⟩ : ByteArray), (⟨#[]⟩ : ByteArray)] : List ByteArray) : List ByteArray)).bind fun y242 => ((spec_l20Rd_pick.f k t231 bt240.2 4).bind fun bt245 => (if 0 ≤ bt245.1 then (if bt245.1 < (y242.length : Int) then (some (t234, rdOf ByteArray.empty y242 bt245.1)) else (none)) else (none)))))) = some (r1, r2) := H
  have A3 := Aside0.mk A30
  clear A30
  replace H := Option.bind_eq_some_iff.mp H
  obtain ⟨⟨t238, t239⟩, A40, H⟩ := H
  replace H : ((spec_l20Text.f k t231 t239).bind fun bt240 => ((some (([t238, bt240.1, (⟨#[65]⟩ : ByteArray), (⟨#[]⟩ : ByteArray)] : List ByteArray) : List ByteArray)).bind fun y242 => ((spec_l20Rd_pick.f k t231 bt240.2 4).bind fun bt245 => (if 0 ≤ bt245.1 then (if bt245.1 < (y242.length : Int) then (some (t234, rdOf ByteArray.empty y242 bt245.1)) else (none)) else (none))))) = some (r1, r2) := H
  have A4 := Aside0.mk A40
  clear A40
  replace H := Option.bind_eq_some_iff.mp H
  obtain ⟨⟨t240, t241⟩, A50, H⟩ := H
  replace H : ((some (([t238, t240, (⟨#[65]⟩ : ByteArray), (⟨#[]⟩ : ByteArray)] : List ByteArray) : List ByteArray)).bind fun y242 => ((spec_l20Rd_pick.f k t231 t241 4).bind fun bt245 => (if 0 ≤ bt245.1 then (if bt245.1 < (y242.length : Int) then (some (t234, rdOf ByteArray.empty y242 bt245.1)) else (none)) else (none)))) = some (r1, r2) := H
  have A5 := Aside0.mk A50
  clear A50
  obtain ⟨y242, hy242⟩ : ∃ y_ : List ByteArray, y_ = (([t238, t240, (⟨#[65]⟩ : ByteArray), (⟨#[]⟩ : ByteArray)] : List ByteArray)) := ⟨_, rfl⟩
  replace H : ((spec_l20Rd_pick.f k t231 t241 4).bind fun bt245 => (if 0 ≤ bt245.1 then (if bt245.1 < (y242.length : Int) then (some (t234, rdOf ByteArray.empty y242 bt245.1)) else (none)) else (none))) = some (r1, r2) := by first | (rw [hy242]; with_reducible exact H) | (have H2_ := (Option.bind_some _ _).symm.trans H; rw [hy242]; with_reducible exact H2_) | (have H2_ := (Option.bind_some _ _).symm.trans H; with_reducible exact H2_) | with_reducible exact H | (rw [hy242]; exact H) | exact H
  have Ny242 := Aside0.mk hy242
  clear hy242
  replace H := Option.bind_eq_some_iff.mp H
  obtain ⟨⟨t245, t246⟩, A60, H⟩ := H
  replace H : (if 0 ≤ t245 then (if t245 < (y242.length : Int) then (some (t234, rdOf ByteArray.empty y242 t245)) else (none)) else (none)) = some (r1, r2) := H
  have A6 := Aside0.mk A60
  clear A60
  by_cases c7 : 0 ≤ t245
  · rw [if_pos c7] at H
    have c7b0 : decide (0 ≤ t245) = true := decide_eq_true c7
    clear c7
    by_cases c8 : t245 < (y242.length : Int)
    · rw [if_pos c8] at H
      have c8b0 : decide (t245 < (y242.length : Int)) = true := decide_eq_true c8
      clear c8
      simp only [Option.some.injEq, Prod.mk.injEq] at H
      obtain ⟨rfl, rfl⟩ := H
      go_enter Try.func38, Try.ntmps38
      try go_wp2_with (first | ((with_reducible refine gate_callee (f := 60) rfl ?_); refine goesL_ (some 6) rfl rfl Try.func60 (z_0) rfl #[.slice A0 l0.length c0] rfl (z_10) ?_; (with_reducible refine (spec_l20Open.calls _ _ l0 t231 t232 w _ ?side1 ?side2 ?side3 A2.out).mono ?_); (case side1 => exact z_5); (case side2 => exact HR0.out); (case side3 => exact HC0.out); rintro e w9 ⟨g233, rfl, hi, hb, hb2⟩; refine ⟨_, rfl, ?_⟩; have n0_ := Aside0.mk (hb); have n1_ := Aside0.mk (hi); clear HB; have HB := n0_; have HI233 := n1_; clear n0_ n1_; (try clear hb); (try clear hb2); (try clear hk); (try clear hi)))
      have pi247 : (0 ≤ (t245 : Int)) = True := eq_true (of_decide_eq_true (z_6))
      have qi247 : (t245 < (y242.length : Int)) = True := eq_true (of_decide_eq_true (z_6))
      have n0_ := Aside0.mk (IsS96.drew HI233.out)
      have n1_ := Aside0.mk (below_drew1 HB.out)
      clear HI233
      clear HB
      have HI233 := n0_
      have HB := n1_
      clear n0_ n1_
      refine start_ (n := 13) (S := fun w' => True) (ds := []) #[F,F,F,F,F,F,F,F,F,F,F,F,F] (z_0) rfl rfl trivial (fun hHeld => ?_); refine with_tabW spec_DrawNameAsk.tab2 spec_DrawNameAsk.bits2 (fun HT_ HW_ => ?_)
      generalize w9.drew = w10 at HI233 HB hHeld ⊢
      refine pure_ (i := 0) (N := some 7) (v := ?_) (a' := ?_) #[T,F,F,F,F,F,F,F,F,F,F,F,F] rfl rfl (any_of HT_.out (z_0)) (fun _ _ _ h => h) (Or.inl ⟨z_1, ?_⟩) ?_ ?_
      rotate_left
      · intro w'
        go_simp
        with_reducible rfl
      rotate_left
      · simp only [Act.put, List.setIfInBounds_toArray, List.set_cons_zero, List.set_cons_succ, i64_w, i32_w]
        rfl
      refine pure_ (i := 2) (N := some 9) (v := ?_) (a' := ?_) #[T,F,T,F,F,F,F,F,F,F,F,F,F] rfl rfl (any_of HT_.out (z_0)) (fun _ _ _ h => h) (Or.inl ⟨z_1, ?_⟩) ?_ ?_
      rotate_left
      · intro w'
        go_simp
        with_reducible rfl
      rotate_left
      · simp only [Act.put, List.setIfInBounds_toArray, List.set_cons_zero, List.set_cons_succ, i64_w, i32_w]
        rfl
      refine pure_ (i := 4) (N := some 11) (v := ?_) (a' := ?_) #[T,F,T,F,T,F,F,F,F,F,F,F,F] rfl rfl (any_of HT_.out (z_0)) (fun _ _ _ h => h) (Or.inl ⟨z_1, ?_⟩) ?_ ?_
      rotate_left
      · intro w'
        go_simp
        with_reducible rfl
      rotate_left
      · simp only [Act.put, List.setIfInBounds_toArray, List.set_cons_zero, List.set_cons_succ, i64_w, i32_w]
        rfl
      refine pure_ (i := 7) (N := some 14) (v := ?_) (a' := ?_) #[T,F,T,F,T,F,F,T,F,F,F,F,F] rfl rfl (any_of HT_.out (z_0)) (fun _ _ _ h => h) (Or.inl ⟨z_1, ?_⟩) ?_ ?_
      rotate_left
      · intro w'
        go_simp
        with_reducible rfl
      rotate_left
      · simp only [Act.put, List.setIfInBounds_toArray, List.set_cons_zero, List.set_cons_succ, i64_w, i32_w]
        rfl
      refine inv_at [1, 3, 5, 6, 8, 9, 10, 11, 12] (fun a0_ b a w' => ∃ (v235 : Value) (v243 : Value) (adz_v243 : Addr) (m9_ : Value) (m11_ : Value), a = putSel a0_ b [(1, 8, v235), (3, 10, .string t238), (5, 12, .string t240), (6, 13, v243), (8, 15, .int .i64 t245), (9, 16, m9_), (10, 17, .string (rdOf ByteArray.empty y242 t245)), (11, 2, m11_), (12, 3, .string (rdOf ByteArray.empty y242 t245))] ∧ (b 1 = false → IsS96 w w' g233 t231 t232) ∧ (Below w.heap.size w w') ∧ (b 1 = true → Kd.R k26 26 w' w.heap.size (fun _ => True) v235 t234) ∧ (b 1 = true → b 3 = false → IsS96 w w' g233 t231 t237) ∧ (b 3 = true → b 5 = false → IsS96 w w' g233 t231 t239) ∧ (b 5 = true → b 8 = false → IsS96 w w' g233 t231 t241) ∧ (b 6 = true → Kd.R Kd.string 9 w' w.heap.size (fun _ => True) v243 y242) ∧ (b 6 = true → ∃ c_, (v243 : Value) = .slice (some adz_v243) y242.length c_) ∧ (b 8 = true → IsS96 w w' g233 t231 t246) ∧ (b 9 = true → (m9_ : Value) = .pointer (some (adz_v243.add (t245).toNat))) ∧ (b 11 = true → (m11_ : Value) = v235)) HT_.out HW_.out (z_0) (z_0) ?_ ?_ ?_
      · exact ⟨.bool false, .bool false, ⟨0, 0, none⟩, .bool false, .bool false, by simp only [putSel, Bool.false_eq_true, if_false], fun _ => HI233.out, HB.out, fun h_ => absurd h_ (z_16), fun h_ => absurd h_ (z_16), fun h_ => absurd h_ (z_16), fun h_ => absurd h_ (z_16), fun h_ => absurd h_ (z_16), fun h_ => absurd h_ (z_16), fun h_ => absurd h_ (z_16), fun h_ => absurd h_ (z_16), fun h_ => absurd h_ (z_16)⟩
      · skip
        clear HB HI233
        refine steps_cons ?_ ?_
        · rintro b a w' ⟨v235, v243, adz_v243, m9_, m11_, ha, Q_HI233, Q_HB, Q_HO236, Q_HI233_e1, Q_HI233_e3, Q_HI233_e5, Q_HO244, Q_HA_HO244, Q_HI233_e8, Q_X9_, Q_X11_⟩ hb_ hon hoff
          refine ⟨_, rfl, fun K hK => ?_⟩
          have e7 : a.tmps[7]? = some (.pointer (some ⟨g233, 0, none⟩)) := z_49
          replace ha := Aside0.mk ha
          have HI233 := Aside0.mk (Q_HI233 hb_)
          have HB := Aside0.mk Q_HB
          refine goes_ Try.func62 (z_0) rfl #[.pointer (some ⟨g233, 0, none⟩), .int .i64 15] (z_1) rfl rfl (by first | (simp only [List.map_toArray, List.map_cons, List.map_nil, Act.eval, Array.getD_eq_getD_getElem?, Option.getD_some, e7]; done) | (simp only [List.map_toArray, List.map_cons, List.map_nil, Act.eval, Array.getD_eq_getD_getElem?, Option.getD_some, e7]; rfl)) ?_
          with_reducible refine (spec_l20Names.calls k g233 t231 t232 15 t234 t237 w _ ?side1 ?side2 A3.out).mono ?_
          (case side1 => exact z_50)
          (case side2 => exact z_51)
          rintro e w11 ⟨v235, rfl, ho0, hi, hb, hk⟩
          refine ⟨_, rfl, ?_⟩
          have n0_ := Aside0.mk (Kd.R_lower ho0 (below_size (z_51)))
          have n1_ := Aside0.mk (hb)
          have n2_ := Aside0.mk (hi)
          clear HB
          clear HI233
          have HO236 := n0_
          have HB := n1_
          have HI233 := n2_
          clear n0_ n1_ n2_
          (try clear hb)
          (try clear hb2)
          (try clear hk)
          (try clear hi)
          (try clear ho0)
          refine hK.out _ _ ⟨v235, v243, adz_v243, m9_, m11_, (by rw [ha.out]; exact putSel_upk 0 hb_ rfl rfl rfl), fun h0_ => absurd ((up_self b 1).symm.trans h0_) (z_16), (z_51), fun _ => (z_52), fun _ _ => (z_50), fun h0_ _ => absurd ((hoff 3 (z_0)).symm.trans h0_) (z_16), fun h0_ _ => absurd ((hoff 5 (z_0)).symm.trans h0_) (z_16), fun h0_ => absurd ((hoff 6 (z_0)).symm.trans h0_) (z_16), fun h0_ => absurd ((hoff 6 (z_0)).symm.trans h0_) (z_16), fun h0_ => absurd ((hoff 8 (z_0)).symm.trans h0_) (z_16), fun h0_ => absurd ((hoff 9 (z_0)).symm.trans h0_) (z_16), fun h0_ => absurd ((hoff 11 (z_0)).symm.trans h0_) (z_16)⟩
        refine steps_cons ?_ ?_
        · rintro b a w' ⟨v235, v243, adz_v243, m9_, m11_, ha, Q_HI233, Q_HB, Q_HO236, Q_HI233_e1, Q_HI233_e3, Q_HI233_e5, Q_HO244, Q_HA_HO244, Q_HI233_e8, Q_X9_, Q_X11_⟩ hb_ hon hoff
          refine ⟨_, rfl, fun K hK => ?_⟩
          have e9 : a.tmps[9]? = some (.pointer (some ⟨g233, 0, none⟩)) := z_49
          replace ha := Aside0.mk ha
          have HB := Aside0.mk Q_HB
          have HO236 := Aside0.mk (Q_HO236 (hon 1 (z_0)))
          have HI233 := Aside0.mk (Q_HI233_e1 (hon 1 (z_0)) hb_)
          refine goes_ Try.func68 (z_0) rfl #[.pointer (some ⟨g233, 0, none⟩)] (z_1) rfl rfl (by first | (simp only [List.map_toArray, List.map_cons, List.map_nil, Act.eval, Array.getD_eq_getD_getElem?, Option.getD_some, e9]; done) | (simp only [List.map_toArray, List.map_cons, List.map_nil, Act.eval, Array.getD_eq_getD_getElem?, Option.getD_some, e9]; rfl)) ?_
          with_reducible refine (spec_l20Text.calls k g233 t231 t237 t238 t239 w _ ?side1 ?side2 A4.out).mono ?_
          (case side1 => exact z_50)
          (case side2 => exact z_51)
          rintro e w13 ⟨rfl, hi, hb, hk⟩
          refine ⟨_, rfl, ?_⟩
          have n0_ := Aside0.mk (Kd.R_mono (Kd.R_keep (IsS96.apart (show IsS96 w _ g233 t231 t237 from z_50) (z_52) (z_16)) hk (fun _ h => h.2)) (fun _ h => h.1))
          have n1_ := Aside0.mk (hb)
          have n2_ := Aside0.mk (hi)
          clear HO236
          clear HB
          clear HI233
          have HO236 := n0_
          have HB := n1_
          have HI233 := n2_
          clear n0_ n1_ n2_
          (try clear hb)
          (try clear hb2)
          (try clear hk)
          (try clear hi)
          refine hK.out _ _ ⟨v235, v243, adz_v243, m9_, m11_, (by rw [ha.out]; exact putSel_upk 1 hb_ rfl rfl rfl), fun h0_ => absurd ((hon 1 (z_0)).symm.trans h0_) (z_16), (z_51), fun _ => (z_52), fun _ h1_ => absurd ((up_self b 3).symm.trans h1_) (z_16), fun _ _ => (z_50), fun h0_ _ => absurd ((hoff 5 (z_0)).symm.trans h0_) (z_16), fun h0_ => absurd ((hoff 6 (z_0)).symm.trans h0_) (z_16), fun h0_ => absurd ((hoff 6 (z_0)).symm.trans h0_) (z_16), fun h0_ => absurd ((hoff 8 (z_0)).symm.trans h0_) (z_16), fun h0_ => absurd ((hoff 9 (z_0)).symm.trans h0_) (z_16), fun h0_ => absurd ((hoff 11 (z_0)).symm.trans h0_) (z_16)⟩
        refine steps_cons ?_ ?_
        · rintro b a w' ⟨v235, v243, adz_v243, m9_, m11_, ha, Q_HI233, Q_HB, Q_HO236, Q_HI233_e1, Q_HI233_e3, Q_HI233_e5, Q_HO244, Q_HA_HO244, Q_HI233_e8, Q_X9_, Q_X11_⟩ hb_ hon hoff
          refine ⟨_, rfl, fun K hK => ?_⟩
          have e11 : a.tmps[11]? = some (.pointer (some ⟨g233, 0, none⟩)) := z_49
          replace ha := Aside0.mk ha
          have HB := Aside0.mk Q_HB
          have HO236 := Aside0.mk (Q_HO236 (hon 1 (z_0)))
          have HI233 := Aside0.mk (Q_HI233_e3 (hon 3 (z_0)) hb_)
          refine goes_ Try.func68 (z_0) rfl #[.pointer (some ⟨g233, 0, none⟩)] (z_1) rfl rfl (by first | (simp only [List.map_toArray, List.map_cons, List.map_nil, Act.eval, Array.getD_eq_getD_getElem?, Option.getD_some, e11]; done) | (simp only [List.map_toArray, List.map_cons, List.map_nil, Act.eval, Array.getD_eq_getD_getElem?, Option.getD_some, e11]; rfl)) ?_
          with_reducible refine (spec_l20Text.calls k g233 t231 t239 t240 t241 w _ ?side1 ?side2 A5.out).mono ?_
          (case side1 => exact z_50)
          (case side2 => exact z_51)
          rintro e w14 ⟨rfl, hi, hb, hk⟩
          refine ⟨_, rfl, ?_⟩
          have n0_ := Aside0.mk (Kd.R_mono (Kd.R_keep (IsS96.apart (show IsS96 w _ g233 t231 t239 from z_50) (z_52) (z_16)) hk (fun _ h => h.2)) (fun _ h => h.1))
          have n1_ := Aside0.mk (hb)
          have n2_ := Aside0.mk (hi)
          clear HO236
          clear HB
          clear HI233
          have HO236 := n0_
          have HB := n1_
          have HI233 := n2_
          clear n0_ n1_ n2_
          (try clear hb)
          (try clear hb2)
          (try clear hk)
          (try clear hi)
          refine hK.out _ _ ⟨v235, v243, adz_v243, m9_, m11_, (by rw [ha.out]; exact putSel_upk 2 hb_ rfl rfl rfl), fun h0_ => absurd ((hon 1 (z_0)).symm.trans h0_) (z_16), (z_51), fun _ => (z_52), fun _ h1_ => absurd ((hon 3 (z_0)).symm.trans h1_) (z_16), fun _ h1_ => absurd ((up_self b 5).symm.trans h1_) (z_16), fun _ _ => (z_50), fun h0_ => absurd ((hoff 6 (z_0)).symm.trans h0_) (z_16), fun h0_ => absurd ((hoff 6 (z_0)).symm.trans h0_) (z_16), fun h0_ => absurd ((hoff 8 (z_0)).symm.trans h0_) (z_16), fun h0_ => absurd ((hoff 9 (z_0)).symm.trans h0_) (z_16), fun h0_ => absurd ((hoff 11 (z_0)).symm.trans h0_) (z_16)⟩
        refine steps_cons ?_ ?_
        · rintro b a w' ⟨v235, v243, adz_v243, m9_, m11_, ha, Q_HI233, Q_HB, Q_HO236, Q_HI233_e1, Q_HI233_e3, Q_HI233_e5, Q_HO244, Q_HA_HO244, Q_HI233_e8, Q_X9_, Q_X11_⟩ hb_ hon hoff
          refine ⟨_, rfl, fun K hK => ?_⟩
          have e10 : a.tmps[10]? = some (.string t238) := by rw [ha]; exact putSel_on (e := (3, 10, .string t238)) 1 rfl rfl (hon 3 (z_0)) rfl
          have e12 : a.tmps[12]? = some (.string t240) := by rw [ha]; exact putSel_on (e := (5, 12, .string t240)) 2 rfl rfl (hon 5 (z_0)) rfl
          replace ha := Aside0.mk ha
          have HB := Aside0.mk Q_HB
          have HO236 := Aside0.mk (Q_HO236 (hon 1 (z_0)))
          refine Kd.R_lit_step Kd.string _ 9 ?hg (N := 13) ?hd (xs := ([t238, t240, (⟨#[65]⟩ : ByteArray), (⟨#[]⟩ : ByteArray)] : List ByteArray)) (inner := [.string t238, .string t240, .string (⟨#[65]⟩ : ByteArray), .string (⟨#[]⟩ : ByteArray)]) (ok := fun _ => True) (okp := fun _ => True) ?hr ?hp (fun _ hk => hk) trivial (Below.refl _ _) (Nat.le_refl _) (z_9) ?_; (case hd => rfl); (case hg => rfl); (case hr => exact z_11); (case hp => exact (Reps.one (show Kd.M Kd.string _ _ _ t238 [.string t238] from rfl) (Reps.one (show Kd.M Kd.string _ _ _ t240 [.string t240] from rfl) (Reps.one (show Kd.M Kd.string _ _ _ (⟨#[65]⟩ : ByteArray) [.string (⟨#[65]⟩ : ByteArray)] from rfl) (Reps.one (show Kd.M Kd.string _ _ _ (⟨#[]⟩ : ByteArray) [.string (⟨#[]⟩ : ByteArray)] from rfl) (Reps.none _ _))))))
          intro v243 w15 ho16 hb hg_ hnew_
          clear hg_ hnew_
          (first | rw [← Ny242.out] at ho16 | (simp only [Int.reduceToNat] at ho16; rw [← Ny242.out] at ho16))
          have n0_ := Aside0.mk (Kd.R_below (z_52) hb)
          have n1_ := Aside0.mk (Kd.R_lower ho16 (below_size (z_5)))
          have n3_ := Aside0.mk (below_step (z_5) hb)
          have z_HI233_e5 := fun (h0_ : b 5 = true) (h1_ : b 8 = false) => (show IsS96 w w15 g233 t231 t241 from by first | exact (IsS96.below (by repeat (first | (with_reducible first | exact (Q_HI233_e5 h0_ h1_) | apply IsS96.alloc | apply IsS96.drewN | apply IsS96.drew | apply IsS96.set_1) | exact (Q_HI233_e5 h0_ h1_))) hb))
          have z_HI233_e8 := fun (h0_ : b 8 = true) => (show IsS96 w w15 g233 t231 t246 from by first | exact (IsS96.below (by repeat (first | (with_reducible first | exact (Q_HI233_e8 h0_) | apply IsS96.alloc | apply IsS96.drewN | apply IsS96.drew | apply IsS96.set_1) | exact (Q_HI233_e8 h0_))) hb))
          clear HO236
          clear HB
          have HO236 := n0_
          have HO244 := n1_
          have HB := n3_
          clear n0_ n1_ n3_
          clear hb ho16
          obtain ⟨Ao17, co17, eo17⟩ := Kd.R_slice HO244.out
          subst eo17
          obtain ⟨ado17, fo17, _⟩ := Kd.at_string (Kd.R_reads' HO244.out).2.2 0 (z_16) (by rw [Ny242.out]; simp)
          cases fo17
          refine hK.out _ _ ⟨v235, .slice (some ado17) y242.length co17, ado17, m9_, m11_, (by rw [ha.out]; exact putSel_upk 3 hb_ rfl rfl rfl), fun h0_ => absurd ((hon 1 (z_0)).symm.trans h0_) (z_16), (z_5), fun _ => (z_52), fun _ h1_ => absurd ((hon 3 (z_0)).symm.trans h1_) (z_16), fun _ h1_ => absurd ((hon 5 (z_0)).symm.trans h1_) (z_16), z_HI233_e5, fun _ => (by (with_reducible repeat (first | apply Kd.R_alloc | apply Kd.R_drewN | apply Kd.R_drew)); exact HO244.out), fun _ => ⟨_, rfl⟩, z_HI233_e8, fun h0_ => absurd ((hoff 9 (z_0)).symm.trans h0_) (z_16), Q_X11_⟩
        refine steps_cons ?_ ?_
        · rintro b a w' ⟨v235, v243, adz_v243, m9_, m11_, ha, Q_HI233, Q_HB, Q_HO236, Q_HI233_e1, Q_HI233_e3, Q_HI233_e5, Q_HO244, Q_HA_HO244, Q_HI233_e8, Q_X9_, Q_X11_⟩ hb_ hon hoff
          refine ⟨_, rfl, fun K hK => ?_⟩
          have e14 : a.tmps[14]? = some (.pointer (some ⟨g233, 0, none⟩)) := z_49
          replace ha := Aside0.mk ha
          have HB := Aside0.mk Q_HB
          have HO236 := Aside0.mk (Q_HO236 (hon 1 (z_0)))
          have HI233 := Aside0.mk (Q_HI233_e5 (hon 5 (z_0)) hb_)
          refine goes_ Try.func69 (z_0) rfl #[.pointer (some ⟨g233, 0, none⟩), .int .i64 4] (z_1) rfl rfl (by first | (simp only [List.map_toArray, List.map_cons, List.map_nil, Act.eval, Array.getD_eq_getD_getElem?, Option.getD_some, e14]; done) | (simp only [List.map_toArray, List.map_cons, List.map_nil, Act.eval, Array.getD_eq_getD_getElem?, Option.getD_some, e14]; rfl)) ?_
          with_reducible refine (spec_l20Rd_pick.calls k g233 t231 t241 4 t245 t246 w _ ?side1 ?side2 A6.out).mono ?_
          (case side1 => exact z_50)
          (case side2 => exact z_51)
          rintro e w15 ⟨rfl, hi, hb, hk⟩
          refine ⟨_, rfl, ?_⟩
          have n0_ := Aside0.mk (Kd.R_mono (Kd.R_keep (IsS96.apart (show IsS96 w _ g233 t231 t241 from z_50) (z_52) (z_16)) hk (fun _ h => h.2)) (fun _ h => h.1))
          have n1_ := Aside0.mk (hb)
          have n2_ := Aside0.mk (hi)
          have z_HO244 := fun (h0_ : b 6 = true) => (show Kd.R Kd.string 9 w15 w.heap.size (fun _ => True) v243 y242 from by first | exact (Kd.R_mono (Kd.R_keep (IsS96.apart (show IsS96 w _ g233 t231 t241 from z_50) (z_53) (z_16)) hk (fun _ h => h.2)) (fun _ h => h.1)) | exact Kd.R_mono (Kd.R_mono (Kd.R_keep (IsS96.apart (show IsS96 w _ g233 t231 t241 from z_50) (z_53) (z_16)) hk (fun _ h => h.2)) (fun _ h => h.1)) (fun _ h_ => by first | trivial | exact h_ | exact h_.1))
          clear HO236
          clear HB
          clear HI233
          have HO236 := n0_
          have HB := n1_
          have HI233 := n2_
          clear n0_ n1_ n2_
          (try clear hb)
          (try clear hb2)
          (try clear hk)
          (try clear hi)
          refine hK.out _ _ ⟨v235, v243, adz_v243, m9_, m11_, (by rw [ha.out]; exact putSel_upk 4 hb_ rfl rfl rfl), fun h0_ => absurd ((hon 1 (z_0)).symm.trans h0_) (z_16), (z_51), fun _ => (z_52), fun _ h1_ => absurd ((hon 3 (z_0)).symm.trans h1_) (z_16), fun _ h1_ => absurd ((hon 5 (z_0)).symm.trans h1_) (z_16), fun _ h1_ => absurd ((up_self b 8).symm.trans h1_) (z_16), z_HO244, Q_HA_HO244, fun _ => (z_50), fun h0_ => absurd ((hoff 9 (z_0)).symm.trans h0_) (z_16), fun h0_ => absurd ((hoff 11 (z_0)).symm.trans h0_) (z_16)⟩
        refine steps_cons ?_ ?_
        · rintro b a w' ⟨v235, v243, adz_v243, m9_, m11_, ha, Q_HI233, Q_HB, Q_HO236, Q_HI233_e1, Q_HI233_e3, Q_HI233_e5, Q_HO244, Q_HA_HO244, Q_HI233_e8, Q_X9_, Q_X11_⟩ hb_ hon hoff
          refine ⟨_, rfl, fun K hK => ?_⟩
          have e13 : a.tmps[13]? = some (v243) := by rw [ha]; exact putSel_on (e := (6, 13, v243)) 3 rfl rfl (hon 6 (z_0)) rfl
          have e15 : a.tmps[15]? = some (.int .i64 t245) := by rw [ha]; exact putSel_on (e := (8, 15, .int .i64 t245)) 4 rfl rfl (hon 8 (z_0)) rfl
          replace ha := Aside0.mk ha
          have HB := Aside0.mk Q_HB
          have HO236 := Aside0.mk (Q_HO236 (hon 1 (z_0)))
          have HO244 := Aside0.mk (Q_HO244 (hon 6 (z_0)))
          have HA_HO244 := Aside0.mk (Q_HA_HO244 (hon 6 (z_0)))
          have HI233 := Aside0.mk (Q_HI233_e8 (hon 8 (z_0)))
          obtain ⟨c_, hv_⟩ := HA_HO244.out
          rw [hv_] at e13
          refine value_ (w1 := w') (v := .pointer (some (adz_v243.add (t245).toNat))) (z_1) rfl ?_ ?_
          · go_simp
            (try simp only [i64_w])
            try rfl
          refine hK.out _ _ ⟨v235, v243, adz_v243, (.pointer (some (adz_v243.add (t245).toNat))), m11_, (by rw [ha.out]; exact putSel_upk 5 hb_ rfl rfl rfl), fun h0_ => absurd ((hon 1 (z_0)).symm.trans h0_) (z_16), Q_HB, Q_HO236, fun _ h1_ => absurd ((hon 3 (z_0)).symm.trans h1_) (z_16), fun _ h1_ => absurd ((hon 5 (z_0)).symm.trans h1_) (z_16), fun _ h1_ => absurd ((hon 8 (z_0)).symm.trans h1_) (z_16), Q_HO244, Q_HA_HO244, Q_HI233_e8, fun _ => rfl, Q_X11_⟩
        refine steps_cons ?_ ?_
        · rintro b a w' ⟨v235, v243, adz_v243, m9_, m11_, ha, Q_HI233, Q_HB, Q_HO236, Q_HI233_e1, Q_HI233_e3, Q_HI233_e5, Q_HO244, Q_HA_HO244, Q_HI233_e8, Q_X9_, Q_X11_⟩ hb_ hon hoff
          refine ⟨_, rfl, fun K hK => ?_⟩
          have e16 : a.tmps[16]? = some (m9_) := by rw [ha]; exact putSel_on (e := (9, 16, m9_)) 5 rfl rfl (hon 9 (z_0)) rfl
          rw [Q_X9_ (hon 9 (z_0))] at e16
          replace ha := Aside0.mk ha
          have HB := Aside0.mk Q_HB
          have HO236 := Aside0.mk (Q_HO236 (hon 1 (z_0)))
          have HO244 := Aside0.mk (Q_HO244 (hon 6 (z_0)))
          have HA_HO244 := Aside0.mk (Q_HA_HO244 (hon 6 (z_0)))
          have HI233 := Aside0.mk (Q_HI233_e8 (hon 8 (z_0)))
          obtain ⟨c_, hv_⟩ := HA_HO244.out
          have hF_ := HO244.out
          rw [hv_] at hF_
          obtain ⟨ad_, ea_, hx_⟩ := Kd.at_string (Kd.R_reads' hF_).2.2 t245 (of_eq_true pi247) (of_eq_true qi247)
          cases ea_
          refine value_ (w1 := w') (v := .string (rdOf ByteArray.empty y242 t245)) (z_1) rfl ?_ ?_
          · go_simp
            (try simp only [i64_w])
            try rfl
          refine hK.out _ _ ⟨v235, v243, adz_v243, m9_, m11_, (by rw [ha.out]; exact putSel_upk 6 hb_ rfl rfl rfl), fun h0_ => absurd ((hon 1 (z_0)).symm.trans h0_) (z_16), Q_HB, Q_HO236, fun _ h1_ => absurd ((hon 3 (z_0)).symm.trans h1_) (z_16), fun _ h1_ => absurd ((hon 5 (z_0)).symm.trans h1_) (z_16), fun _ h1_ => absurd ((hon 8 (z_0)).symm.trans h1_) (z_16), Q_HO244, Q_HA_HO244, Q_HI233_e8, Q_X9_, Q_X11_⟩
        refine steps_cons ?_ ?_
        · rintro b a w' ⟨v235, v243, adz_v243, m9_, m11_, ha, Q_HI233, Q_HB, Q_HO236, Q_HI233_e1, Q_HI233_e3, Q_HI233_e5, Q_HO244, Q_HA_HO244, Q_HI233_e8, Q_X9_, Q_X11_⟩ hb_ hon hoff
          refine ⟨_, rfl, fun K hK => ?_⟩
          have e8 : a.tmps[8]? = some (v235) := by rw [ha]; exact putSel_on (e := (1, 8, v235)) 0 rfl rfl (hon 1 (z_0)) rfl
          replace ha := Aside0.mk ha
          have HB := Aside0.mk Q_HB
          have HO236 := Aside0.mk (Q_HO236 (hon 1 (z_0)))
          have HI233 := Aside0.mk (Q_HI233_e8 (hon 8 (z_0)))
          refine value_ (w1 := w') (v := v235) (z_1) rfl ?_ ?_
          · go_simp
            (try simp only [i64_w])
            try rfl
          refine hK.out _ _ ⟨v235, v243, adz_v243, m9_, (v235), (by rw [ha.out]; exact putSel_upk 7 hb_ rfl rfl rfl), fun h0_ => absurd ((hon 1 (z_0)).symm.trans h0_) (z_16), Q_HB, Q_HO236, fun _ h1_ => absurd ((hon 3 (z_0)).symm.trans h1_) (z_16), fun _ h1_ => absurd ((hon 5 (z_0)).symm.trans h1_) (z_16), fun _ h1_ => absurd ((hon 8 (z_0)).symm.trans h1_) (z_16), Q_HO244, Q_HA_HO244, Q_HI233_e8, Q_X9_, fun _ => rfl⟩
        refine steps_cons ?_ ?_
        · rintro b a w' ⟨v235, v243, adz_v243, m9_, m11_, ha, Q_HI233, Q_HB, Q_HO236, Q_HI233_e1, Q_HI233_e3, Q_HI233_e5, Q_HO244, Q_HA_HO244, Q_HI233_e8, Q_X9_, Q_X11_⟩ hb_ hon hoff
          refine ⟨_, rfl, fun K hK => ?_⟩
          have e17 : a.tmps[17]? = some (.string (rdOf ByteArray.empty y242 t245)) := by rw [ha]; exact putSel_on (e := (10, 17, .string (rdOf ByteArray.empty y242 t245))) 6 rfl rfl (hon 10 (z_0)) rfl
          replace ha := Aside0.mk ha
          have HB := Aside0.mk Q_HB
          have HO236 := Aside0.mk (Q_HO236 (hon 1 (z_0)))
          have HO244 := Aside0.mk (Q_HO244 (hon 6 (z_0)))
          have HA_HO244 := Aside0.mk (Q_HA_HO244 (hon 6 (z_0)))
          have HI233 := Aside0.mk (Q_HI233_e8 (hon 8 (z_0)))
          refine value_ (w1 := w') (v := .string (rdOf ByteArray.empty y242 t245)) (z_1) rfl ?_ ?_
          · go_simp
            (try simp only [i64_w])
            try rfl
          refine hK.out _ _ ⟨v235, v243, adz_v243, m9_, m11_, (by rw [ha.out]; exact putSel_upk 8 hb_ rfl rfl rfl), fun h0_ => absurd ((hon 1 (z_0)).symm.trans h0_) (z_16), Q_HB, Q_HO236, fun _ h1_ => absurd ((hon 3 (z_0)).symm.trans h1_) (z_16), fun _ h1_ => absurd ((hon 5 (z_0)).symm.trans h1_) (z_16), fun _ h1_ => absurd ((hon 8 (z_0)).symm.trans h1_) (z_16), Q_HO244, Q_HA_HO244, Q_HI233_e8, Q_X9_, Q_X11_⟩
        exact steps_nil
      rintro b a w18 hall ⟨v235, v243, adz_v243, m9_, m11_, ha, Q_HI233, Q_HB, Q_HO236, Q_HI233_e1, Q_HI233_e3, Q_HI233_e5, Q_HO244, Q_HA_HO244, Q_HI233_e8, Q_X9_, Q_X11_⟩
      clear HB HI233
      have hb1_ := hall 1 (z_0)
      have hb3_ := hall 3 (z_0)
      have hb5_ := hall 5 (z_0)
      have hb6_ := hall 6 (z_0)
      have hb8_ := hall 8 (z_0)
      have hb9_ := hall 9 (z_0)
      have hb10_ := hall 10 (z_0)
      have hb11_ := hall 11 (z_0)
      have hb12_ := hall 12 (z_0)
      subst ha
      obtain rfl := Q_X9_ hb9_
      obtain rfl := Q_X11_ hb11_
      simp only [putSel, hb1_, hb3_, hb5_, hb6_, hb8_, hb9_, hb10_, hb11_, hb12_, if_true, Act.put, List.setIfInBounds_toArray, List.set_cons_zero, List.set_cons_succ]
      clear Q_HI233
      have HB := Aside0.mk Q_HB
      clear Q_HB
      have HO236 := Aside0.mk (Q_HO236 hb1_)
      clear Q_HO236
      clear Q_HI233_e1
      clear Q_HI233_e3
      clear Q_HI233_e5
      have HO244 := Aside0.mk (Q_HO244 hb6_)
      clear Q_HO244
      have HA_HO244 := Aside0.mk (Q_HA_HO244 hb6_)
      clear Q_HA_HO244
      have HI233 := Aside0.mk (Q_HI233_e8 hb8_)
      clear Q_HI233_e8
      clear hall hb1_ hb3_ hb5_ hb6_ hb8_ hb9_ hb10_ hb11_ hb12_
      obtain ⟨co19, eo19⟩ := HA_HO244.out
      clear HA_HO244
      subst eo19
      try go_wp2
      go_ret2
      exact ⟨_, z_7, z_52, z_51⟩
    · rw [if_neg c8] at H
      exact absurd H (z_9)
  · rw [if_neg c7] at H
    exact absurd H (z_9)

end Go.Proofs.Ytmgnmgobibpjjaa.GFnNameAsk
