/- What the Go functions that FnTexts reaches come to, walked step by step; there is no condition beyond those each statement names. -/
import Derived.Test.YtmgnmgobibpjjaaGFnTextsx0
import Derived.Test.YtmgnmgobibpjjaaGFnTextsx9
import Derived.Test.YtmgnmgobibpjjaaGFnTextsx12
namespace Go.Proofs.Ytmgnmgobibpjjaa.GFnTexts
open Go.RowKit Go.Proofs.YtmgnmgobibpjjaaVTexts.PrintWords Go.Proofs.YtmgnmgobibpjjaaVTexts.PrintLast Go.Proofs.YtmgnmgobibpjjaaVTexts.PrintMore
open Bool renaming true → T, false → F
attribute [local go_sem] max2_int min2_int max_two min_two max_three min_three max_four min_four   -- for this text's walks alone
set_option linter.unusedVariables false
set_option linter.unusedSimpArgs false

/-! ### spec_KeptAsk: function 45 -/
mutual
def spec_KeptAsk.j0 : Nat → List (S83) → ByteArray → Int → Bool → ByteArray → Int → Int → ByteArray → Int → Option ((List (S83)) × ByteArray × Int × Int × ByteArray × Int × Bool)
  | 0, _, _, _, _, _, _, _, _, _ => none
  | k + 1, x0, x2, x3, x32, x357000, x357001, x357002, x357003, x357004 => if x32 = true then (some ((([] : List (S83))), (⟨#[]⟩ : ByteArray), 0, 0, (⟨#[]⟩ : ByteArray), 0, false)) else (spec_KeptAsk.l0 k x0 x2 x3 (([] : List (S83))) 0 x357000 x357001 x357002 x357003 x357004)
def spec_KeptAsk.l0 : Nat → List (S83) → ByteArray → Int → List (S83) → Int → ByteArray → Int → Int → ByteArray → Int → Option ((List (S83)) × ByteArray × Int × Int × ByteArray × Int × Bool)
  | 0, _, _, _, _, _, _, _, _, _, _ => none
  | k + 1, x0, x2, x3, x13, x14, x357000, x357001, x357002, x357003, x357004 => if x14 < (x0.length : Int) then (if 0 ≤ x14 then (if ((rd_T83 x0 x14).f0.f0).toList = x2.toList then (spec_KeptAsk.j2 k x0 x2 x3 x13 x14 (decide (((rd_T83 x0 x14).f1) > x3)) x357000 x357001 x357002 x357003 x357004) else (spec_KeptAsk.j2 k x0 x2 x3 x13 x14 false x357000 x357001 x357002 x357003 x357004)) else (none)) else (if x13.length < 2199023255552 then ((some (x13 ++ [(⟨(⟨x357000, x357001, x357002, x357003, x357004⟩ : S26), wrap64 (x3 + x357004)⟩ : S83)] : List (S83))).bind fun y365 => (if (y365.length : Int) > 5 then (if 1 ≤ (y365.length : Int) then (some ((y365.drop (1 : Int).toNat), x357000, x357001, x357002, x357003, x357004, false)) else (none)) else (some (y365, x357000, x357001, x357002, x357003, x357004, false)))) else (none))
def spec_KeptAsk.j2 : Nat → List (S83) → ByteArray → Int → List (S83) → Int → Bool → ByteArray → Int → Int → ByteArray → Int → Option ((List (S83)) × ByteArray × Int × Int × ByteArray × Int × Bool)
  | 0, _, _, _, _, _, _, _, _, _, _, _ => none
  | k + 1, x0, x2, x3, x13, x14, x58, x357000, x357001, x357002, x357003, x357004 => if x58 = true then ((some (([] : List (S83)) : List (S83))).bind fun y373 => (if y373.length + x0.length < 2199023255552 then (if 0 ≤ x14 then (if x14 < (x0.length : Int) then (some ((y373 ++ x0), (rd_T83 x0 x14).f0.f0, (rd_T83 x0 x14).f0.f1, (rd_T83 x0 x14).f0.f2, (rd_T83 x0 x14).f0.f3, (rd_T83 x0 x14).f0.f4, true)) else (none)) else (none)) else (none))) else (if 0 ≤ x14 then (if x14 < (x0.length : Int) then (if ((rd_T83 x0 x14).f0.f0).toList = x2.toList then (spec_KeptAsk.l0 k x0 x2 x3 x13 (wrap64 (x14 + 1)) x357000 x357001 x357002 x357003 x357004) else (if x13.length < 2199023255552 then (spec_KeptAsk.l0 k x0 x2 x3 (x13 ++ [(⟨(⟨(rd_T83 x0 x14).f0.f0, (rd_T83 x0 x14).f0.f1, (rd_T83 x0 x14).f0.f2, (rd_T83 x0 x14).f0.f3, (rd_T83 x0 x14).f0.f4⟩ : S26), (rd_T83 x0 x14).f1⟩ : S83)]) (wrap64 (x14 + 1)) x357000 x357001 x357002 x357003 x357004) else (none))) else (none)) else (none))
end
def spec_KeptAsk.f (k : Nat) (l0 : List (S83)) (l1 : List (S26)) (a2 : ByteArray) (a3 : Int) : Option ((List (S83)) × ByteArray × Int × Int × ByteArray × Int × Bool) := (spec_NameAsk.f k l1 a2).bind fun bt350 => ((spec_KeptOk.f k l0).bind fun t357 => (if t357 = true then (if bt350.2.2.2.2.2 = true then ((spec_l1In.f a3 0 900000).bind fun t358 => (spec_KeptAsk.j0 k l0 a2 a3 (!t358) bt350.1 bt350.2.1 bt350.2.2.1 bt350.2.2.2.1 bt350.2.2.2.2.1)) else (spec_KeptAsk.j0 k l0 a2 a3 true bt350.1 bt350.2.1 bt350.2.2.1 bt350.2.2.2.1 bt350.2.2.2.2.1)) else (spec_KeptAsk.j0 k l0 a2 a3 true bt350.1 bt350.2.1 bt350.2.2.1 bt350.2.2.2.1 bt350.2.2.2.2.1)))
theorem spec_KeptAsk.mono_l : ∀ k, (∀ y0 y1 y2 y3 y4 y5 y6 y7 y8, LeO (spec_KeptAsk.j0 k y0 y1 y2 y3 y4 y5 y6 y7 y8) (spec_KeptAsk.j0 (k + 1) y0 y1 y2 y3 y4 y5 y6 y7 y8)) ∧ (∀ y0 y1 y2 y3 y4 y5 y6 y7 y8 y9, LeO (spec_KeptAsk.l0 k y0 y1 y2 y3 y4 y5 y6 y7 y8 y9) (spec_KeptAsk.l0 (k + 1) y0 y1 y2 y3 y4 y5 y6 y7 y8 y9)) ∧ (∀ y0 y1 y2 y3 y4 y5 y6 y7 y8 y9 y10, LeO (spec_KeptAsk.j2 k y0 y1 y2 y3 y4 y5 y6 y7 y8 y9 y10) (spec_KeptAsk.j2 (k + 1) y0 y1 y2 y3 y4 y5 y6 y7 y8 y9 y10))
  | 0 => ⟨fun _ _ _ _ _ _ _ _ _ r h => by simp [spec_KeptAsk.j0] at h, fun _ _ _ _ _ _ _ _ _ _ r h => by simp [spec_KeptAsk.l0] at h, fun _ _ _ _ _ _ _ _ _ _ _ r h => by simp [spec_KeptAsk.j2] at h⟩
  | k + 1 => by
    obtain ⟨ih0, ih1, ih2⟩ := spec_KeptAsk.mono_l k
    refine ⟨?_, ?_, ?_⟩
    · intro y0 y1 y2 y3 y4 y5 y6 y7 y8
      unfold spec_KeptAsk.j0
      repeat' first
      | (with_reducible exact ih0 _ _ _ _ _ _ _ _ _)
      | (with_reducible exact ih1 _ _ _ _ _ _ _ _ _ _)
      | (with_reducible exact ih2 _ _ _ _ _ _ _ _ _ _ _)
      | (with_reducible exact spec_KeptOk.mono _ _)
      | (with_reducible exact spec_NameAsk.mono _ _ _)
      | (with_reducible exact LeO.refl _)
      | (with_reducible exact LeO.none _)
      | (with_reducible refine LeO.ite ?_ ?_)
      | (with_reducible refine LeO.bind ?_ (fun _ => ?_))
      | exact ih0 _ _ _ _ _ _ _ _ _
      | exact ih1 _ _ _ _ _ _ _ _ _ _
      | exact ih2 _ _ _ _ _ _ _ _ _ _ _
      | exact spec_KeptOk.mono _ _
      | exact spec_NameAsk.mono _ _ _
      | exact LeO.none _
      | refine LeO.ite ?_ ?_
      | refine LeO.bind ?_ (fun _ => ?_)
    · intro y0 y1 y2 y3 y4 y5 y6 y7 y8 y9
      unfold spec_KeptAsk.l0
      repeat' first
      | (with_reducible exact ih0 _ _ _ _ _ _ _ _ _)
      | (with_reducible exact ih1 _ _ _ _ _ _ _ _ _ _)
      | (with_reducible exact ih2 _ _ _ _ _ _ _ _ _ _ _)
      | (with_reducible exact spec_KeptOk.mono _ _)
      | (with_reducible exact spec_NameAsk.mono _ _ _)
      | (with_reducible exact LeO.refl _)
      | (with_reducible exact LeO.none _)
      | (with_reducible refine LeO.ite ?_ ?_)
      | (with_reducible refine LeO.bind ?_ (fun _ => ?_))
      | exact ih0 _ _ _ _ _ _ _ _ _
      | exact ih1 _ _ _ _ _ _ _ _ _ _
      | exact ih2 _ _ _ _ _ _ _ _ _ _ _
      | exact spec_KeptOk.mono _ _
      | exact spec_NameAsk.mono _ _ _
      | exact LeO.none _
      | refine LeO.ite ?_ ?_
      | refine LeO.bind ?_ (fun _ => ?_)
    · intro y0 y1 y2 y3 y4 y5 y6 y7 y8 y9 y10
      unfold spec_KeptAsk.j2
      repeat' first
      | (with_reducible exact ih0 _ _ _ _ _ _ _ _ _)
      | (with_reducible exact ih1 _ _ _ _ _ _ _ _ _ _)
      | (with_reducible exact ih2 _ _ _ _ _ _ _ _ _ _ _)
      | (with_reducible exact spec_KeptOk.mono _ _)
      | (with_reducible exact spec_NameAsk.mono _ _ _)
      | (with_reducible exact LeO.refl _)
      | (with_reducible exact LeO.none _)
      | (with_reducible refine LeO.ite ?_ ?_)
      | (with_reducible refine LeO.bind ?_ (fun _ => ?_))
      | exact ih0 _ _ _ _ _ _ _ _ _
      | exact ih1 _ _ _ _ _ _ _ _ _ _
      | exact ih2 _ _ _ _ _ _ _ _ _ _ _
      | exact spec_KeptOk.mono _ _
      | exact spec_NameAsk.mono _ _ _
      | exact LeO.none _
      | refine LeO.ite ?_ ?_
      | refine LeO.bind ?_ (fun _ => ?_)
theorem spec_KeptAsk.mono : ∀ a0 a1 a2 a3 k, LeO (spec_KeptAsk.f k a0 a1 a2 a3) (spec_KeptAsk.f (k + 1) a0 a1 a2 a3) := by
  intro a0 a1 a2 a3 k
  obtain ⟨ih0, ih1, ih2⟩ := spec_KeptAsk.mono_l k
  unfold spec_KeptAsk.f
  repeat' first
      | (with_reducible exact ih0 _ _ _ _ _ _ _ _ _)
      | (with_reducible exact ih1 _ _ _ _ _ _ _ _ _ _)
      | (with_reducible exact ih2 _ _ _ _ _ _ _ _ _ _ _)
      | (with_reducible exact spec_KeptOk.mono _ _)
      | (with_reducible exact spec_NameAsk.mono _ _ _)
      | (with_reducible exact LeO.refl _)
      | (with_reducible exact LeO.none _)
      | (with_reducible refine LeO.ite ?_ ?_)
      | (with_reducible refine LeO.bind ?_ (fun _ => ?_))
      | exact ih0 _ _ _ _ _ _ _ _ _
      | exact ih1 _ _ _ _ _ _ _ _ _ _
      | exact ih2 _ _ _ _ _ _ _ _ _ _ _
      | exact spec_KeptOk.mono _ _
      | exact spec_NameAsk.mono _ _ _
      | exact LeO.none _
      | refine LeO.ite ?_ ?_
      | refine LeO.bind ?_ (fun _ => ?_)
def spec_KeptAsk.T9 : Bool × List (List Nat × List Nat) := (true, [([], []), ([], []), ([0, 1], [0, 1]), ([], []), ([], []), ([3, 4], [3, 4]), ([5], [5]), ([6], [6]), ([2, 2, 0, 1, 2], [2]), ([7, 8, 0, 1, 2, 3, 4, 5, 6, 7, 8], [7]), ([9, 0, 1, 2, 3, 4, 5, 6, 7, 8, 9], [])])
def spec_KeptAsk.B9 : List Nat := [0, 0, 3, 0, 0, 24, 56, 120, 7, 511, 1023]
theorem spec_KeptAsk.tab9 : rtab .any (opsOf Try.f45 9) = spec_KeptAsk.T9 := z_0
theorem spec_KeptAsk.bits9 : waitsOk spec_KeptAsk.T9.2 spec_KeptAsk.B9 = true := z_0
set_option maxHeartbeats 8000000 in
set_option maxRecDepth 100000 in
theorem spec_KeptAsk.calls (k : Nat) (A0 : Option Addr) (c0 : Nat) (l0 : List (S83)) (A1 : Option Addr) (c1 : Nat) (l1 : List (S26)) (a2 : ByteArray) (a3 : Int) (r1 : List (S83)) (r2 : ByteArray) (r3 : Int) (r4 : Int) (r5 : ByteArray) (r6 : Int) (r7 : Bool) (w : World) (hr0 : Kd.C k83 w A0 l0.length l0) (hc0 : l0.length ≤ c0) (hr1 : Kd.C k26 w A1 l1.length l1) (hc1 : l1.length ≤ c1) (h : spec_KeptAsk.f k l0 l1 a2 a3 = some (r1, r2, r3, r4, r5, r6, r7)) :
    Calls Try.prog 45 #[.slice A0 l0.length c0, .slice A1 l1.length c1, .string a2, .int .i64 a3] w fun e w' => ∃ v0_ : Value, e = .returned (.tuple #[v0_, .agg #[.string r2, .int .i64 r3, .int .i64 r4, .string r5, .int .i64 r6], .bool r7]) ∧ Kd.Q k83 83 w' w.heap.size (fun _ => True) v0_ r1 ∧ Below w.heap.size w w' := by
  have hu26 := Try.underlying26
  have hu83 := Try.underlying83
  have HR0 := Aside0.mk hr0
  have HC0 := Aside0.mk hc0
  clear hr0 hc0
  have HR1 := Aside0.mk hr1
  have HC1 := Aside0.mk hc1
  clear hr1 hc1
  have HB := Aside0.mk (Below.refl w.heap.size w)
  have H : ((spec_NameAsk.f k l1 a2).bind fun bt350 => ((spec_KeptOk.f k l0).bind fun t357 => (if t357 = true then (if bt350.2.2.2.2.2 = true then ((spec_l1In.f a3 0 900000).bind fun t358 => (spec_KeptAsk.j0 k l0 a2 a3 (!t358) bt350.1 bt350.2.1 bt350.2.2.1 bt350.2.2.2.1 bt350.2.2.2.2.1)) else (spec_KeptAsk.j0 k l0 a2 a3 true bt350.1 bt350.2.1 bt350.2.2.1 bt350.2.2.2.1 bt350.2.2.2.2.1)) else (spec_KeptAsk.j0 k l0 a2 a3 true bt350.1 bt350.2.1 bt350.2.2.1 bt350.2.2.2.1 bt350.2.2.2.2.1)))) = some (r1, r2, r3, r4, r5, r6, r7) := h
  clear h
  replace H := Option.bind_eq_some_iff.mp H
  obtain ⟨⟨t350, t351, t352, t353, t354, t355⟩, A50, H⟩ := H
  replace H : ((spec_KeptOk.f k l0).bind fun t357 => (if t357 = true then (if t355 = true then ((spec_l1In.f a3 0 900000).bind fun t358 => (spec_KeptAsk.j0 k l0 a2 a3 (!t358) t350 t351 t352 t353 t354)) else (spec_KeptAsk.j0 k l0 a2 a3 true t350 t351 t352 t353 t354)) else (spec_KeptAsk.j0 k l0 a2 a3 true t350 t351 t352 t353 t354))) = some (r1, r2, r3, r4, r5, r6, r7) := H
  have A5 := Aside0.mk A50
  clear A50
  have HC6 := Aside0.mk H
  clear H
  go_enter Try.func45, Try.ntmps45
  go_upto_region 2 with (first | ((with_reducible refine gate_dst (N := 9) rfl ?_); refine box_event ?hg (N := 9) ?hd (cs := #[.string (⟨#[]⟩ : ByteArray), .int .i64 0, .int .i64 0, .string (⟨#[]⟩ : ByteArray), .int .i64 0]) (t := 26) ?hr ?_; (case hd => rfl); (case hg => rfl); (case hr => exact z_9); intro gb349 hg w7 hbox hb; have n0_ := Aside0.mk (below_step (z_8) hb); have n1_ := Aside0.mk (hbox); have n2_ := Aside0.mk ((z_20 : w.heap.size ≤ gb349)); have n3_ := Aside0.mk ((z_20 : w.heap.size ≤ gb349)); clear HB; have HB := n0_; have BK349 := n1_; have GW349 := n2_; have GE349 := n3_; clear n0_ n1_ n2_ n3_; clear hb hbox hg) | ((with_reducible refine gate_callee (f := 30) rfl ?_); refine goesL_ (some 18) rfl rfl Try.func30 (z_0) rfl #[.slice A1 l1.length c1, .string a2] rfl (z_14) ?_; (with_reducible refine (spec_NameAsk.calls k _ _ l1 a2 t350 t351 t352 t353 t354 t355 _ ?side1 ?side2 A5.out).mono ?_); (case side1 => exact z_66); (case side2 => exact HC1.out); rintro e w8 ⟨rfl, hb⟩; refine ⟨_, rfl, ?_⟩; have n0_ := Aside0.mk (blk_below (g := gb349) (o := .cells #[.string (⟨#[]⟩ : ByteArray), .int .i64 0, .int .i64 0, .string (⟨#[]⟩ : ByteArray), .int .i64 0] 26 (0, 0)) (z_104) hb); have n1_ := Aside0.mk (below_step (z_105) hb); clear BK349; clear HB; have BK349 := n0_; have HB := n1_; clear n0_ n1_; (try clear hb); (try clear hb2); (try clear hk); (try clear hi)) | ((with_reducible refine gate_dst (N := 11) rfl ?_); refine box_event ?hg (N := 11) ?hd (cs := #[.string (⟨#[]⟩ : ByteArray), .int .i64 0, .int .i64 0, .string (⟨#[]⟩ : ByteArray), .int .i64 0]) (t := 26) ?hr ?_; (case hd => rfl); (case hg => rfl); (case hr => exact z_9); intro gb356 hg w9 hbox hb; have n0_ := Aside0.mk (blk_below (g := gb349) (o := .cells #[.string (⟨#[]⟩ : ByteArray), .int .i64 0, .int .i64 0, .string (⟨#[]⟩ : ByteArray), .int .i64 0] 26 (0, 0)) (z_104) hb); have n1_ := Aside0.mk (below_step (z_105) hb); have n2_ := Aside0.mk (hbox); have n3_ := Aside0.mk ((z_106 : w.heap.size ≤ gb356)); have n4_ := Aside0.mk ((z_106 : w.heap.size ≤ gb356)); have n5_ := Aside0.mk ((by rw [hg]; exact Nat.ne_of_lt (blk_lt (g := gb349) (o := .cells #[.string (⟨#[]⟩ : ByteArray), .int .i64 0, .int .i64 0, .string (⟨#[]⟩ : ByteArray), .int .i64 0] 26 (0, 0)) (z_104)) : gb349 ≠ gb356)); have n6_ := Aside0.mk ((by rw [hg]; exact Nat.ne_of_gt (blk_lt (g := gb349) (o := .cells #[.string (⟨#[]⟩ : ByteArray), .int .i64 0, .int .i64 0, .string (⟨#[]⟩ : ByteArray), .int .i64 0] 26 (0, 0)) (z_104)) : gb356 ≠ gb349)); clear BK349; clear HB; have BK349 := n0_; have HB := n1_; have BK356 := n2_; have GW356 := n3_; have GE356 := n4_; have NB349_356 := n5_; have NB356_349 := n6_; clear n0_ n1_ n2_ n3_ n4_ n5_ n6_; clear hb hbox hg; have hnb10 := NB356_349.out; have hnc10 := NB349_356.out; have hcz11_0 : w9.cell? ⟨gb356, 0, none⟩ = some (.string (⟨#[]⟩ : ByteArray)) := (blk_cell BK356.out 0).trans rfl; have hcz11_1 : w9.cell? ⟨gb356, 1, none⟩ = some (.int .i64 0) := (blk_cell BK356.out 1).trans rfl; have hcz11_2 : w9.cell? ⟨gb356, 2, none⟩ = some (.int .i64 0) := (blk_cell BK356.out 2).trans rfl; have hcz11_3 : w9.cell? ⟨gb356, 3, none⟩ = some (.string (⟨#[]⟩ : ByteArray)) := (blk_cell BK356.out 3).trans rfl; have hcz11_4 : w9.cell? ⟨gb356, 4, none⟩ = some (.int .i64 0) := (blk_cell BK356.out 4).trans rfl; have hfz11_0 := blk_frozen BK356.out 0; have hfz11_1 := blk_frozen BK356.out 1; have hfz11_2 := blk_frozen BK356.out 2; have hfz11_3 := blk_frozen BK356.out 3; have hfz11_4 := blk_frozen BK356.out 4))
  (try simp only [Act.put, List.setIfInBounds_toArray, List.set_cons_zero, List.set_cons_succ])
  go_cut [32] (fun v32 wc => ∃ (kq : Nat) (x32_5 : Bool), v32 = .bool x32_5 ∧ Aside0 (spec_KeptAsk.j0 kq l0 a2 a3 x32_5 t350 t351 t352 t353 t354 = some (r1, r2, r3, r4, r5, r6, r7)) ∧ Aside0 (kq ≤ k) ∧ Aside0 (wc.heap[gb349]? = some (.cells #[.string (⟨#[]⟩ : ByteArray), .int .i64 0, .int .i64 0, .string (⟨#[]⟩ : ByteArray), .int .i64 0] 26 (0, 0))) ∧ Aside0 (wc.heap[gb356]? = some (.cells #[.string t350, .int .i64 t351, .int .i64 t352, .string t353, .int .i64 t354] 26 (0, 0))) ∧ Aside0 (Below w.heap.size w wc))
  case first =>
    have H := HC6.out
    clear HC6
    replace H := Option.bind_eq_some_iff.mp H
    obtain ⟨t357, A120, H⟩ := H
    have A12 := Aside0.mk A120
    clear A120
    by_cases c13 : t357 = true
    · subst c13
      rw [if_pos rfl] at H
      by_cases c14 : t355 = true
      · subst c14
        rw [if_pos rfl] at H
        replace H := Option.bind_eq_some_iff.mp H
        obtain ⟨t358, A150, H⟩ := H
        have A15 := Aside0.mk A150
        clear A150
        have H' := Aside0.mk H
        clear H
        go_wp2_with (first | ((with_reducible refine gate_callee (f := 34) rfl ?_); refine goesL_ (some 22) rfl rfl Try.func34 (z_0) rfl #[.slice A0 l0.length c0] rfl (z_14) ?_; (with_reducible refine (spec_KeptOk.calls k _ _ l0 true _ ?side1 ?side2 A12.out).mono ?_); (case side1 => exact z_108); (case side2 => exact HC0.out); rintro e w16 ⟨rfl, hb⟩; refine ⟨_, rfl, ?_⟩; have n0_ := Aside0.mk (blk_below (g := gb349) (o := .cells #[.string (⟨#[]⟩ : ByteArray), .int .i64 0, .int .i64 0, .string (⟨#[]⟩ : ByteArray), .int .i64 0] 26 (0, 0)) (z_109) hb); have n1_ := Aside0.mk (blk_below (g := gb356) (o := .cells #[.string t350, .int .i64 t351, .int .i64 t352, .string t353, .int .i64 t354] 26 (0, 0)) (z_110) hb); have n2_ := Aside0.mk (below_step (z_107) hb); clear BK349; clear BK356; clear HB; have BK349 := n0_; have BK356 := n1_; have HB := n2_; clear n0_ n1_ n2_; (try clear hb); (try clear hb2); (try clear hk); (try clear hi)) | (go_at_call 55; (with_reducible refine (spec_l1In.calls a3 0 900000 t358 _ A15.out).mono ?_); rintro e w' ⟨rfl, ⟨nd, rfl⟩⟩))
        go_meet
        case rel => exact ⟨_, (!t358), (z_3), H', ⟨z_23⟩, ⟨z_104⟩, ⟨z_111⟩, ⟨z_107⟩⟩
      · replace c14 := Bool.eq_false_iff.mpr c14
        subst c14
        rw [if_neg (show ¬ (false = true) by decide)] at H
        have H' := Aside0.mk H
        clear H
        go_wp2_with (first | ((with_reducible refine gate_callee (f := 34) rfl ?_); refine goesL_ (some 22) rfl rfl Try.func34 (z_0) rfl #[.slice A0 l0.length c0] rfl (z_14) ?_; (with_reducible refine (spec_KeptOk.calls k _ _ l0 true _ ?side1 ?side2 A12.out).mono ?_); (case side1 => exact z_108); (case side2 => exact HC0.out); rintro e w17 ⟨rfl, hb⟩; refine ⟨_, rfl, ?_⟩; have n0_ := Aside0.mk (blk_below (g := gb349) (o := .cells #[.string (⟨#[]⟩ : ByteArray), .int .i64 0, .int .i64 0, .string (⟨#[]⟩ : ByteArray), .int .i64 0] 26 (0, 0)) (z_109) hb); have n1_ := Aside0.mk (blk_below (g := gb356) (o := .cells #[.string t350, .int .i64 t351, .int .i64 t352, .string t353, .int .i64 t354] 26 (0, 0)) (z_110) hb); have n2_ := Aside0.mk (below_step (z_107) hb); clear BK349; clear BK356; clear HB; have BK349 := n0_; have BK356 := n1_; have HB := n2_; clear n0_ n1_ n2_; (try clear hb); (try clear hb2); (try clear hk); (try clear hi)))
        go_meet
        case rel => exact ⟨_, (true), (z_3), H', ⟨z_23⟩, ⟨z_104⟩, ⟨z_111⟩, ⟨z_107⟩⟩
    · replace c13 := Bool.eq_false_iff.mpr c13
      subst c13
      rw [if_neg (show ¬ (false = true) by decide)] at H
      have H' := Aside0.mk H
      clear H
      go_wp2_with (first | ((with_reducible refine gate_callee (f := 34) rfl ?_); refine goesL_ (some 22) rfl rfl Try.func34 (z_0) rfl #[.slice A0 l0.length c0] rfl (z_14) ?_; (with_reducible refine (spec_KeptOk.calls k _ _ l0 false _ ?side1 ?side2 A12.out).mono ?_); (case side1 => exact z_108); (case side2 => exact HC0.out); rintro e w18 ⟨rfl, hb⟩; refine ⟨_, rfl, ?_⟩; have n0_ := Aside0.mk (blk_below (g := gb349) (o := .cells #[.string (⟨#[]⟩ : ByteArray), .int .i64 0, .int .i64 0, .string (⟨#[]⟩ : ByteArray), .int .i64 0] 26 (0, 0)) (z_109) hb); have n1_ := Aside0.mk (blk_below (g := gb356) (o := .cells #[.string t350, .int .i64 t351, .int .i64 t352, .string t353, .int .i64 t354] 26 (0, 0)) (z_110) hb); have n2_ := Aside0.mk (below_step (z_107) hb); clear BK349; clear BK356; clear HB; have BK349 := n0_; have BK356 := n1_; have HB := n2_; clear n0_ n1_ n2_; (try clear hb); (try clear hb2); (try clear hk); (try clear hi)))
      go_meet
      case rel => exact ⟨_, (true), (z_3), H', ⟨z_23⟩, ⟨z_104⟩, ⟨z_111⟩, ⟨z_107⟩⟩
  case rest =>
    clear HC6
    try clear c1
    try clear p2
    try clear c3
    try clear c4
    try clear c10
    try clear c13
    try clear c14
    try clear hcz11_0
    try clear hcz11_1
    try clear hcz11_2
    try clear hcz11_3
    try clear hcz11_4
    try clear hfz11_0
    try clear hfz11_1
    try clear hfz11_2
    try clear hfz11_3
    try clear hfz11_4
    obtain ⟨kq, x32_5, rfl, HA, HJ5, BK349, BK356, HB⟩ := hcut
    cases kq with
    | zero => exact absurd HA.out (by simp [spec_KeptAsk.j0])
    | succ kj5 =>
      have H := HA.out
      clear HA
      simp only [spec_KeptAsk.j0] at H
      by_cases c19 : x32_5 = true
      · subst c19
        rw [if_pos rfl] at H
        obtain ⟨y359, hy359⟩ : ∃ y_ : List (S83), y_ = (([] : List (S83))) := ⟨_, rfl⟩
        replace H : (some (y359, (⟨#[]⟩ : ByteArray), 0, 0, (⟨#[]⟩ : ByteArray), 0, false)) = some (r1, r2, r3, r4, r5, r6, r7) := by first | (rw [hy359]; with_reducible exact H) | (have H2_ := (Option.bind_some _ _).symm.trans H; rw [hy359]; with_reducible exact H2_) | (have H2_ := (Option.bind_some _ _).symm.trans H; with_reducible exact H2_) | with_reducible exact H | (rw [hy359]; exact H) | exact H
        have Ny359 := Aside0.mk hy359
        clear hy359
        simp only [Option.some.injEq, Prod.mk.injEq] at H
        obtain ⟨rfl, rfl, rfl, rfl, rfl, rfl, rfl⟩ := H
        go_wp2_with (first | ((with_reducible refine gate_dst (N := 33) rfl ?_); refine Kd.R_lit k83 _ 83 ?hg (N := 33) ?hd (xs := ([] : List (S83))) (inner := []) (ok := fun _ => True) (okp := fun _ => True) ?hr ?hp (fun _ hk => hk) trivial (Below.refl _ _) (Nat.le_refl _) (z_12) ?_; (case hd => rfl); (case hg => rfl); (case hr => exact z_9); (case hp => exact z_45); intro v360 w20 ho21 hb hg_ hnew_; clear hg_ hnew_; (first | rw [← Ny359.out] at ho21 | (simp only [Int.reduceToNat] at ho21; rw [← Ny359.out] at ho21)); have n0_ := Aside0.mk (Kd.R_lower ho21 (below_size (z_107))); have n1_ := Aside0.mk (blk_below (g := gb349) (o := .cells #[.string (⟨#[]⟩ : ByteArray), .int .i64 0, .int .i64 0, .string (⟨#[]⟩ : ByteArray), .int .i64 0] 26 (0, 0)) (z_104) hb); have n2_ := Aside0.mk (blk_below (g := gb356) (o := .cells #[.string t350, .int .i64 t351, .int .i64 t352, .string t353, .int .i64 t354] 26 (0, 0)) (z_111) hb); have n3_ := Aside0.mk (below_step (z_107) hb); clear BK349; clear BK356; clear HB; have HO361 := n0_; have BK349 := n1_; have BK356 := n2_; have HB := n3_; clear n0_ n1_ n2_ n3_; clear hb ho21; have hnb22 := NB349_356.out; have hnc22 := NB356_349.out; have hcz23_0 : w20.cell? ⟨gb349, 0, none⟩ = some (.string (⟨#[]⟩ : ByteArray)) := (blk_cell BK349.out 0).trans rfl; have hcz23_1 : w20.cell? ⟨gb349, 1, none⟩ = some (.int .i64 0) := (blk_cell BK349.out 1).trans rfl; have hcz23_2 : w20.cell? ⟨gb349, 2, none⟩ = some (.int .i64 0) := (blk_cell BK349.out 2).trans rfl; have hcz23_3 : w20.cell? ⟨gb349, 3, none⟩ = some (.string (⟨#[]⟩ : ByteArray)) := (blk_cell BK349.out 3).trans rfl; have hcz23_4 : w20.cell? ⟨gb349, 4, none⟩ = some (.int .i64 0) := (blk_cell BK349.out 4).trans rfl; have hfz23_0 := blk_frozen BK349.out 0; have hfz23_1 := blk_frozen BK349.out 1; have hfz23_2 := blk_frozen BK349.out 2; have hfz23_3 := blk_frozen BK349.out 3; have hfz23_4 := blk_frozen BK349.out 4))
        refine bodyPost_ret (results_list (rs := [.tmp 8, .cell 9 26, .tmp 10]) rfl (z_12) (.tmp (.cell gb349 26 #[.string (⟨#[]⟩ : ByteArray), .int .i64 0, .int .i64 0, .string (⟨#[]⟩ : ByteArray), .int .i64 0] (0, 0) _ rfl (by (with_reducible repeat (first | refine blk_drewN ?_ _ | refine blk_drew ?_ | refine blk_alloc ?_ _)); refine blk_put (cs := #[.string (⟨#[]⟩ : ByteArray), .int .i64 0, .int .i64 0, .string (⟨#[]⟩ : ByteArray), .int .i64 0]) ?_ 4 _ rfl; (with_reducible repeat (first | refine blk_drewN ?_ _ | refine blk_drew ?_ | refine blk_alloc ?_ _)); refine blk_put (cs := #[.string (⟨#[]⟩ : ByteArray), .int .i64 0, .int .i64 0, .string (⟨#[]⟩ : ByteArray), .int .i64 0]) ?_ 3 _ rfl; (with_reducible repeat (first | refine blk_drewN ?_ _ | refine blk_drew ?_ | refine blk_alloc ?_ _)); refine blk_put (cs := #[.string (⟨#[]⟩ : ByteArray), .int .i64 0, .int .i64 0, .string (⟨#[]⟩ : ByteArray), .int .i64 0]) ?_ 2 _ rfl; (with_reducible repeat (first | refine blk_drewN ?_ _ | refine blk_drew ?_ | refine blk_alloc ?_ _)); refine blk_put (cs := #[.string (⟨#[]⟩ : ByteArray), .int .i64 0, .int .i64 0, .string (⟨#[]⟩ : ByteArray), .int .i64 0]) ?_ 1 _ rfl; (with_reducible repeat (first | refine blk_drewN ?_ _ | refine blk_drew ?_ | refine blk_alloc ?_ _)); refine blk_put (cs := #[.string (⟨#[]⟩ : ByteArray), .int .i64 0, .int .i64 0, .string (⟨#[]⟩ : ByteArray), .int .i64 0]) ?_ 0 _ rfl; (with_reducible repeat (first | refine blk_drewN ?_ _ | refine blk_drew ?_ | refine blk_alloc ?_ _)); exact BK349.out) Try.underlying26 rfl (z_0) (.tmp .nil)))) rfl ?_
        exact ⟨_, z_13, Kd.Q_of_R (by (with_reducible repeat (first | apply Kd.R_alloc | apply Kd.R_drewN | apply Kd.R_drew)); exact Kd.R_mono (Kd.R_far (p := ⟨gb349, 4, none⟩) (Kd.R_far (p := ⟨gb349, 3, none⟩) (Kd.R_far (p := ⟨gb349, 2, none⟩) (Kd.R_far (p := ⟨gb349, 1, none⟩) (Kd.R_far (p := ⟨gb349, 0, none⟩) (Kd.R_types HO361.out BK349.out (z_5)) (fun _ hk => hk.2) (.string (⟨#[]⟩ : ByteArray))) (fun _ hk => hk.2) (.int .i64 0)) (fun _ hk => hk.2) (.int .i64 0)) (fun _ hk => hk.2) (.string (⟨#[]⟩ : ByteArray))) (fun _ hk => hk.2) (.int .i64 0)) (fun _ hk => trivial)), z_107⟩
      · replace c19 := Bool.eq_false_iff.mpr c19
        subst c19
        rw [if_neg (show ¬ (false = true) by decide)] at H
        obtain ⟨y362, hy362⟩ : ∃ y_ : List (S83), y_ = (([] : List (S83))) := ⟨_, rfl⟩
        replace H : (spec_KeptAsk.l0 kj5 l0 a2 a3 y362 0 t350 t351 t352 t353 t354) = some (r1, r2, r3, r4, r5, r6, r7) := by first | (rw [hy362]; with_reducible exact H) | (have H2_ := (Option.bind_some _ _).symm.trans H; rw [hy362]; with_reducible exact H2_) | (have H2_ := (Option.bind_some _ _).symm.trans H; with_reducible exact H2_) | with_reducible exact H | (rw [hy362]; exact H) | exact H
        have Ny362 := Aside0.mk hy362
        clear hy362
        have H' := Aside0.mk H
        clear H
        go_wp2_with (first | ((with_reducible refine gate_dst (N := 35) rfl ?_); refine Kd.R_lit k83 _ 83 ?hg (N := 35) ?hd (xs := ([] : List (S83))) (inner := []) (ok := fun _ => True) (okp := fun _ => True) ?hr ?hp (fun _ hk => hk) trivial (Below.refl _ _) (Nat.le_refl _) (z_12) ?_; (case hd => rfl); (case hg => rfl); (case hr => exact z_9); (case hp => exact z_45); intro v363 w24 ho25 hb hg_ hnew_; clear hg_ hnew_; (first | rw [← Ny362.out] at ho25 | (simp only [Int.reduceToNat] at ho25; rw [← Ny362.out] at ho25)); have n0_ := Aside0.mk (Kd.R_lower ho25 (below_size (z_107))); have n1_ := Aside0.mk (blk_below (g := gb349) (o := .cells #[.string (⟨#[]⟩ : ByteArray), .int .i64 0, .int .i64 0, .string (⟨#[]⟩ : ByteArray), .int .i64 0] 26 (0, 0)) (z_104) hb); have n2_ := Aside0.mk (blk_below (g := gb356) (o := .cells #[.string t350, .int .i64 t351, .int .i64 t352, .string t353, .int .i64 t354] 26 (0, 0)) (z_111) hb); have n3_ := Aside0.mk (below_step (z_107) hb); clear BK349; clear BK356; clear HB; have HO364 := n0_; have BK349 := n1_; have BK356 := n2_; have HB := n3_; clear n0_ n1_ n2_ n3_; clear hb ho25))
        go_loopg [13, 14] kj5 (fun kq v13 v14 w' => ∃ (x13_2 : List (S83)) (x14_2 : Int) (x350000_2 : ByteArray) (x350001_2 : Int) (x350002_2 : Int) (x350003_2 : ByteArray) (x350004_2 : Int), v14 = .int .i64 x14_2 ∧ Aside0 (spec_KeptAsk.l0 kq l0 a2 a3 x13_2 x14_2 t350 t351 t352 t353 t354 = some (r1, r2, r3, r4, r5, r6, r7)) ∧ Aside0 (kq ≤ kj5) ∧ Aside0 (Kd.Q k83 83 w' w.heap.size (fun _ => True) v13 x13_2) ∧ Aside0 (w'.heap[gb349]? = some (.cells #[.string x350000_2, .int .i64 x350001_2, .int .i64 x350002_2, .string x350003_2, .int .i64 x350004_2] 26 (0, 0))) ∧ Aside0 (w'.heap[gb356]? = some (.cells #[.string t350, .int .i64 t351, .int .i64 t352, .string t353, .int .i64 t354] 26 (0, 0))) ∧ Aside0 (Below w.heap.size w w'))
        case atStart => exact ⟨(y362), (0), ((⟨#[]⟩ : ByteArray)), (0), (0), ((⟨#[]⟩ : ByteArray)), (0), (z_3), H', ⟨Nat.le_refl _⟩, ⟨Kd.Q_of_R (by (with_reducible repeat (first | apply Kd.R_alloc | apply Kd.R_drewN | apply Kd.R_drew)); exact HO364.out)⟩, ⟨z_104⟩, ⟨z_111⟩, ⟨z_107⟩⟩
        case round =>
          clear H'
          try clear c1
          try clear c2
          try clear p2
          try clear c3
          try clear c4
          try clear c10
          try clear c13
          try clear c14
          try clear c19
          try clear c22
          try clear hcz11_0
          try clear hcz11_1
          try clear hcz11_2
          try clear hcz11_3
          try clear hcz11_4
          try clear hcz23_0
          try clear hcz23_1
          try clear hcz23_2
          try clear hcz23_3
          try clear hcz23_4
          try clear hfz11_0
          try clear hfz11_1
          try clear hfz11_2
          try clear hfz11_3
          try clear hfz11_4
          try clear hfz23_0
          try clear hfz23_1
          try clear hfz23_2
          try clear hfz23_3
          try clear hfz23_4
          try clear p2
          obtain ⟨x13_2, x14_2, x350000_2, x350001_2, x350002_2, x350003_2, x350004_2, rfl, HA, HK2, HO_13, BK349, BK356, HB⟩ := hrel
          cases gk with
          | zero => exact absurd HA.out (by simp [spec_KeptAsk.l0])
          | succ k2 =>
            have H := HA.out
            clear HA
            simp only [spec_KeptAsk.l0] at H
            by_cases c26 : x14_2 < (l0.length : Int)
            · rw [if_pos c26] at H
              have c26b0 : decide (x14_2 < (l0.length : Int)) = true := decide_eq_true c26
              clear c26
              have HC27 := Aside0.mk H
              clear H
              go_upto_region 8 with (fail)
              go_cut [58] (fun v58 wc => ∃ (kq : Nat) (x58_26 : Bool), v58 = .bool x58_26 ∧ Aside0 (spec_KeptAsk.j2 kq l0 a2 a3 x13_2 x14_2 x58_26 t350 t351 t352 t353 t354 = some (r1, r2, r3, r4, r5, r6, r7)) ∧ Aside0 (kq ≤ k2) ∧ Aside0 (Kd.Q k83 83 wc w.heap.size (fun _ => True) u13 x13_2) ∧ Aside0 (wc.heap[gb349]? = some (.cells #[.string x350000_2, .int .i64 x350001_2, .int .i64 x350002_2, .string x350003_2, .int .i64 x350004_2] 26 (0, 0))) ∧ Aside0 (wc.heap[gb356]? = some (.cells #[.string t350, .int .i64 t351, .int .i64 t352, .string t353, .int .i64 t354] 26 (0, 0))) ∧ Aside0 (Below w.heap.size w wc))
              case first =>
                have H := HC27.out
                clear HC27
                by_cases c28 : 0 ≤ x14_2
                · rw [if_pos c28] at H
                  have c28b0 : decide (0 ≤ x14_2) = true := decide_eq_true c28
                  clear c28
                  (first | rw [c28b0] | (simp only [i64_w, i32_w]; rw [c28b0]) | skip)
                  by_cases c29 : ((rd_T83 l0 x14_2).f0.f0).toList = a2.toList
                  · rw [if_pos c29] at H
                    have c29b0 : (((rd_T83 l0 x14_2).f0.f0).toList == a2.toList) = true := beq_iff_eq.mpr c29
                    have c29b1 : (((rd_T83 l0 x14_2).f0.f0).toList != a2.toList) = false := bne_eq_false_iff_eq.mpr c29
                    clear c29
                    have H' := Aside0.mk H
                    clear H
                    have p371 : 0 ≤ (x14_2 : Int) := of_decide_eq_true (z_7)
                    have q371 : x14_2 < (l0.length : Int) := of_decide_eq_true (z_7)
                    obtain ⟨ad371, e371, hx371_0, hx371_1, hx371_2, hx371_3, hx371_4, hx371_5⟩ := at_T83 HR0.out x14_2 p371 q371
                    cases e371
                    replace hx371_0 := (HB.out.cell (World.block_lt_of_cell? w _ hx371_0)).trans hx371_0
                    replace hx371_1 := (HB.out.cell (World.block_lt_of_cell? w _ hx371_1)).trans hx371_1
                    replace hx371_2 := (HB.out.cell (World.block_lt_of_cell? w _ hx371_2)).trans hx371_2
                    replace hx371_3 := (HB.out.cell (World.block_lt_of_cell? w _ hx371_3)).trans hx371_3
                    replace hx371_4 := (HB.out.cell (World.block_lt_of_cell? w _ hx371_4)).trans hx371_4
                    replace hx371_5 := (HB.out.cell (World.block_lt_of_cell? w _ hx371_5)).trans hx371_5
                    replace p371 := eq_true p371
                    replace q371 := eq_true q371
                    have p372 : 0 ≤ (x14_2 : Int) := of_decide_eq_true (z_7)
                    have q372 : x14_2 < (l0.length : Int) := of_decide_eq_true (z_7)
                    obtain ⟨ad372, e372, hx372_0, hx372_1, hx372_2, hx372_3, hx372_4, hx372_5⟩ := at_T83 HR0.out x14_2 p372 q372
                    obtain rfl : ad371 = ad372 := (by injection e372)
                    replace hx372_0 := (HB.out.cell (World.block_lt_of_cell? w _ hx372_0)).trans hx372_0
                    replace hx372_1 := (HB.out.cell (World.block_lt_of_cell? w _ hx372_1)).trans hx372_1
                    replace hx372_2 := (HB.out.cell (World.block_lt_of_cell? w _ hx372_2)).trans hx372_2
                    replace hx372_3 := (HB.out.cell (World.block_lt_of_cell? w _ hx372_3)).trans hx372_3
                    replace hx372_4 := (HB.out.cell (World.block_lt_of_cell? w _ hx372_4)).trans hx372_4
                    replace hx372_5 := (HB.out.cell (World.block_lt_of_cell? w _ hx372_5)).trans hx372_5
                    replace p372 := eq_true p372
                    replace q372 := eq_true q372
                    go_wp2
                    go_meet
                    case rel => exact ⟨_, (decide (((rd_T83 l0 x14_2).f1) > a3)), (z_3), H', ⟨by have := HJ5.out; have := HK2.out; first | omega | exact Nat.le_refl _⟩, ⟨z_112⟩, ⟨z_104⟩, ⟨z_111⟩, ⟨z_107⟩⟩
                  · rw [if_neg c29] at H
                    have c29b0 : (((rd_T83 l0 x14_2).f0.f0).toList == a2.toList) = false := beq_eq_false_iff_ne.mpr c29
                    have c29b1 : (((rd_T83 l0 x14_2).f0.f0).toList != a2.toList) = true := bne_iff_ne.mpr c29
                    have H' := Aside0.mk H
                    clear H
                    have p371 : 0 ≤ (x14_2 : Int) := of_decide_eq_true (z_7)
                    have q371 : x14_2 < (l0.length : Int) := of_decide_eq_true (z_7)
                    obtain ⟨ad371, e371, hx371_0, hx371_1, hx371_2, hx371_3, hx371_4, hx371_5⟩ := at_T83 HR0.out x14_2 p371 q371
                    cases e371
                    replace hx371_0 := (HB.out.cell (World.block_lt_of_cell? w _ hx371_0)).trans hx371_0
                    replace hx371_1 := (HB.out.cell (World.block_lt_of_cell? w _ hx371_1)).trans hx371_1
                    replace hx371_2 := (HB.out.cell (World.block_lt_of_cell? w _ hx371_2)).trans hx371_2
                    replace hx371_3 := (HB.out.cell (World.block_lt_of_cell? w _ hx371_3)).trans hx371_3
                    replace hx371_4 := (HB.out.cell (World.block_lt_of_cell? w _ hx371_4)).trans hx371_4
                    replace hx371_5 := (HB.out.cell (World.block_lt_of_cell? w _ hx371_5)).trans hx371_5
                    replace p371 := eq_true p371
                    replace q371 := eq_true q371
                    go_wp2
                    go_meet
                    case rel => exact ⟨_, (false), (z_3), H', ⟨by have := HJ5.out; have := HK2.out; first | omega | exact Nat.le_refl _⟩, ⟨z_112⟩, ⟨z_104⟩, ⟨z_111⟩, ⟨z_107⟩⟩
                · rw [if_neg c28] at H
                  exact absurd H (z_12)
              case rest =>
                clear HC27
                try clear c1
                try clear c2
                try clear p2
                try clear c3
                try clear p3
                try clear q3
                try clear hx3
                try clear c4
                try clear c10
                try clear c13
                try clear c14
                try clear c19
                try clear c22
                try clear c26
                try clear c26b0
                try clear c28
                try clear c28b0
                try clear c29
                try clear c29b0
                try clear c29b1
                try clear hcz11_0
                try clear hcz11_1
                try clear hcz11_2
                try clear hcz11_3
                try clear hcz11_4
                try clear hcz23_0
                try clear hcz23_1
                try clear hcz23_2
                try clear hcz23_3
                try clear hcz23_4
                try clear hfz11_0
                try clear hfz11_1
                try clear hfz11_2
                try clear hfz11_3
                try clear hfz11_4
                try clear hfz23_0
                try clear hfz23_1
                try clear hfz23_2
                try clear hfz23_3
                try clear hfz23_4
                try clear hx371_0
                try clear hx371_1
                try clear hx371_2
                try clear hx371_3
                try clear hx371_4
                try clear hx371_5
                try clear hx372_0
                try clear hx372_1
                try clear hx372_2
                try clear hx372_3
                try clear hx372_4
                try clear hx372_5
                try clear p2
                try clear p371
                try clear p372
                try clear q371
                try clear q372
                obtain ⟨kq, x58_26, rfl, HA, HJ26, HO_13, BK349, BK356, HB⟩ := hcut
                cases kq with
                | zero => exact absurd HA.out (by simp [spec_KeptAsk.j2])
                | succ kj26 =>
                  have H := HA.out
                  clear HA
                  simp only [spec_KeptAsk.j2] at H
                  by_cases c30 : x58_26 = true
                  · subst c30
                    rw [if_pos rfl] at H
                    obtain ⟨y373, hy373⟩ : ∃ y_ : List (S83), y_ = (([] : List (S83))) := ⟨_, rfl⟩
                    replace H : (if y373.length + l0.length < 2199023255552 then (if 0 ≤ x14_2 then (if x14_2 < (l0.length : Int) then (some ((y373 ++ l0), (rd_T83 l0 x14_2).f0.f0, (rd_T83 l0 x14_2).f0.f1, (rd_T83 l0 x14_2).f0.f2, (rd_T83 l0 x14_2).f0.f3, (rd_T83 l0 x14_2).f0.f4, true)) else (none)) else (none)) else (none)) = some (r1, r2, r3, r4, r5, r6, r7) := by first | (rw [hy373]; with_reducible exact H) | (have H2_ := (Option.bind_some _ _).symm.trans H; rw [hy373]; with_reducible exact H2_) | (have H2_ := (Option.bind_some _ _).symm.trans H; with_reducible exact H2_) | with_reducible exact H | (rw [hy373]; exact H) | exact H
                    have Ny373 := Aside0.mk hy373
                    clear hy373
                    by_cases c31 : y373.length + l0.length < 2199023255552
                    · rw [if_pos c31] at H
                      have LMc31 := Aside0.mk c31
                      clear c31
                      obtain ⟨y376, hy376⟩ : ∃ y_ : List (S83), y_ = (y373 ++ l0) := ⟨_, rfl⟩
                      replace H : (if 0 ≤ x14_2 then (if x14_2 < (l0.length : Int) then (some (y376, (rd_T83 l0 x14_2).f0.f0, (rd_T83 l0 x14_2).f0.f1, (rd_T83 l0 x14_2).f0.f2, (rd_T83 l0 x14_2).f0.f3, (rd_T83 l0 x14_2).f0.f4, true)) else (none)) else (none)) = some (r1, r2, r3, r4, r5, r6, r7) := by first | (rw [hy376]; with_reducible exact H) | (have H2_ := (Option.bind_some _ _).symm.trans H; rw [hy376]; with_reducible exact H2_) | (have H2_ := (Option.bind_some _ _).symm.trans H; with_reducible exact H2_) | with_reducible exact H | (rw [hy376]; exact H) | exact H
                      have Ny376 := Aside0.mk hy376
                      clear hy376
                      by_cases c32 : 0 ≤ x14_2
                      · rw [if_pos c32] at H
                        have c32b0 : decide (0 ≤ x14_2) = true := decide_eq_true c32
                        clear c32
                        by_cases c33 : x14_2 < (l0.length : Int)
                        · rw [if_pos c33] at H
                          have c33b0 : decide (x14_2 < (l0.length : Int)) = true := decide_eq_true c33
                          clear c33
                          simp only [Option.some.injEq, Prod.mk.injEq] at H
                          obtain ⟨rfl, rfl, rfl, rfl, rfl, rfl, rfl⟩ := H
                          try go_wp2
                          have n0_ := Aside0.mk (Kd.Q_drew HO_13.out)
                          have n1_ := Aside0.mk (blk_drew BK349.out)
                          have n2_ := Aside0.mk (blk_drew BK356.out)
                          have n3_ := Aside0.mk (below_drew1 HB.out)
                          clear HO_13
                          clear BK349
                          clear BK356
                          clear HB
                          have HO_13 := n0_
                          have BK349 := n1_
                          have BK356 := n2_
                          have HB := n3_
                          clear n0_ n1_ n2_ n3_
                          have p379 : 0 ≤ (x14_2 : Int) := of_decide_eq_true (z_7)
                          have q379 : x14_2 < (l0.length : Int) := of_decide_eq_true (z_7)
                          obtain ⟨ad379, e379, hx379_0, hx379_1, hx379_2, hx379_3, hx379_4, hx379_5⟩ := at_T83 HR0.out x14_2 p379 q379
                          have hw379_5 := hx379_5
                          have hw379_4 := hx379_4
                          have hw379_3 := hx379_3
                          have hw379_2 := hx379_2
                          have hw379_1 := hx379_1
                          have hw379_0 := hx379_0
                          cases e379
                          replace hx379_0 := (HB.out.cell (World.block_lt_of_cell? w _ hx379_0)).trans hx379_0
                          replace hx379_1 := (HB.out.cell (World.block_lt_of_cell? w _ hx379_1)).trans hx379_1
                          replace hx379_2 := (HB.out.cell (World.block_lt_of_cell? w _ hx379_2)).trans hx379_2
                          replace hx379_3 := (HB.out.cell (World.block_lt_of_cell? w _ hx379_3)).trans hx379_3
                          replace hx379_4 := (HB.out.cell (World.block_lt_of_cell? w _ hx379_4)).trans hx379_4
                          replace hx379_5 := (HB.out.cell (World.block_lt_of_cell? w _ hx379_5)).trans hx379_5
                          replace p379 := eq_true p379
                          replace q379 := eq_true q379
                          refine start_ (n := 11) (S := fun w' => w'.cell? (ad379.add ((x14_2).toNat * 6)) = some (.string ((rd_T83 l0 x14_2).f0.f0)) ∧ w'.cell? ⟨(ad379.add ((x14_2).toNat * 6)).block, (ad379.add ((x14_2).toNat * 6)).off + 1, none⟩ = some (.int .i64 ((rd_T83 l0 x14_2).f0.f1)) ∧ w'.cell? ⟨(ad379.add ((x14_2).toNat * 6)).block, (ad379.add ((x14_2).toNat * 6)).off + 2, none⟩ = some (.int .i64 ((rd_T83 l0 x14_2).f0.f2)) ∧ w'.cell? ⟨(ad379.add ((x14_2).toNat * 6)).block, (ad379.add ((x14_2).toNat * 6)).off + 3, none⟩ = some (.string ((rd_T83 l0 x14_2).f0.f3)) ∧ w'.cell? ⟨(ad379.add ((x14_2).toNat * 6)).block, (ad379.add ((x14_2).toNat * 6)).off + 4, none⟩ = some (.int .i64 ((rd_T83 l0 x14_2).f0.f4)) ∧ w'.cell? ⟨(ad379.add ((x14_2).toNat * 6)).block, (ad379.add ((x14_2).toNat * 6)).off + 5, none⟩ = some (.int .i64 ((rd_T83 l0 x14_2).f1))) (ds := []) #[F,F,F,F,F,F,F,F,F,F,F] (z_0) rfl rfl ⟨((HB.out.cell (World.block_lt_of_cell? w _ hw379_0)).trans hw379_0), ((HB.out.cell (World.block_lt_of_cell? w _ hw379_1)).trans hw379_1), ((HB.out.cell (World.block_lt_of_cell? w _ hw379_2)).trans hw379_2), ((HB.out.cell (World.block_lt_of_cell? w _ hw379_3)).trans hw379_3), ((HB.out.cell (World.block_lt_of_cell? w _ hw379_4)).trans hw379_4), ((HB.out.cell (World.block_lt_of_cell? w _ hw379_5)).trans hw379_5)⟩ (fun hHeld => ?_); refine with_tabW spec_KeptAsk.tab9 spec_KeptAsk.bits9 (fun HT_ HW_ => ?_)
                          generalize wc.drew = w34 at HO_13 BK349 BK356 HB hx379_0 hx379_1 hx379_2 hx379_3 hx379_4 hx379_5 hHeld ⊢
                          refine pure_ (i := 1) (N := some 60) (v := ?_) (a' := ?_) #[F,T,F,F,F,F,F,F,F,F,F] rfl rfl (any_of HT_.out (z_0)) (fun _ _ _ h => h) (Or.inl ⟨z_1, ?_⟩) ?_ ?_
                          rotate_left
                          · intro w'
                            go_simp
                            with_reducible rfl
                          rotate_left
                          · simp only [Act.put, List.setIfInBounds_toArray, List.set_cons_zero, List.set_cons_succ, i64_w, i32_w]
                            rfl
                          refine pure_ (i := 3) (N := some 62) (v := ?_) (a' := ?_) #[F,T,F,T,F,F,F,F,F,F,F] rfl rfl (any_of HT_.out (z_0)) (fun _ _ _ h => h) (Or.inl ⟨z_1, ?_⟩) ?_ ?_
                          rotate_left
                          · intro w'
                            go_simp
                            with_reducible rfl
                          rotate_left
                          · simp only [Act.put, List.setIfInBounds_toArray, List.set_cons_zero, List.set_cons_succ, i64_w, i32_w]
                            rfl
                          refine pure_ (i := 4) (N := some 63) (v := ?_) (a' := ?_) #[F,T,F,T,T,F,F,F,F,F,F] rfl rfl (any_of HT_.out (z_0)) (fun _ _ _ h => h) (Or.inl ⟨z_1, ?_⟩) ?_ ?_
                          rotate_left
                          · intro w'
                            go_simp
                            with_reducible rfl
                          rotate_left
                          · simp only [Act.put, List.setIfInBounds_toArray, List.set_cons_zero, List.set_cons_succ, i64_w, i32_w]
                            rfl
                          refine pure_ (i := 5) (N := some 64) (v := ?_) (a' := ?_) #[F,T,F,T,T,T,F,F,F,F,F] rfl rfl (any_of HT_.out (z_0)) (fun _ _ _ h => h) (Or.inl ⟨z_1, ?_⟩) ?_ ?_
                          rotate_left
                          · intro w'
                            go_simp
                            with_reducible rfl
                          rotate_left
                          · simp only [Act.put, List.setIfInBounds_toArray, List.set_cons_zero, List.set_cons_succ, i64_w, i32_w]
                            rfl
                          refine pure_ (i := 6) (N := some 65) (v := ?_) (a' := ?_) #[F,T,F,T,T,T,T,F,F,F,F] rfl rfl (any_of HT_.out (z_0)) (fun _ _ _ h => h) (Or.inl ⟨z_1, ?_⟩) ?_ ?_
                          rotate_left
                          · intro w'
                            go_simp
                            with_reducible rfl
                          rotate_left
                          · simp only [Act.put, List.setIfInBounds_toArray, List.set_cons_zero, List.set_cons_succ, i64_w, i32_w]
                            rfl
                          refine take_ (i := 7) (N := some 66) (v := ?_) (a' := ?_) #[F,T,F,T,T,T,T,T,F,F,F] rfl rfl (take_ofW HT_.out HW_.out (z_0)) (fun _ _ _ h => h) (Or.inl ⟨z_1, ?_⟩) hHeld ?_ ?_
                          rotate_left
                          · rintro w' ⟨s0, s1, s2, s3, s4, s5⟩
                            go_simp
                            with_reducible rfl
                          rotate_left
                          · simp only [Act.put, List.setIfInBounds_toArray, List.set_cons_zero, List.set_cons_succ, i64_w, i32_w]
                            rfl
                          refine one_ (i := 0) (N := some 59) #[T,T,F,T,T,T,T,T,F,F,F] rfl rfl (one_of HT_.out (z_0)) (z_5) (fun K hK => ?_)
                          refine Kd.R_lit_step k83 _ 83 ?hg (N := 59) ?hd (xs := ([] : List (S83))) (inner := []) (ok := fun _ => True) (okp := fun _ => True) ?hr ?hp (fun _ hk => hk) trivial (Below.refl _ _) (Nat.le_refl _) (z_12) ?_; (case hd => rfl); (case hg => rfl); (case hr => exact z_9); (case hp => exact z_45)
                          intro v374 w35 ho36 hb hg_ hnew_
                          clear hg_ hnew_
                          (first | rw [← Ny373.out] at ho36 | (simp only [Int.reduceToNat] at ho36; rw [← Ny373.out] at ho36))
                          have n0_ := Aside0.mk (Kd.Q_elder' (z_112) (Kd.R_base ho36) hb)
                          have n1_ := Aside0.mk (Kd.R_lower (Kd.R_new' ho36 (Kd.Q_lt (z_112))) (below_size (z_107)))
                          have n2_ := Aside0.mk (blk_below (g := gb349) (o := .cells #[.string x350000_2, .int .i64 x350001_2, .int .i64 x350002_2, .string x350003_2, .int .i64 x350004_2] 26 (0, 0)) (z_104) hb)
                          have n3_ := Aside0.mk (blk_below (g := gb356) (o := .cells #[.string t350, .int .i64 t351, .int .i64 t352, .string t353, .int .i64 t354] 26 (0, 0)) (z_111) hb)
                          have n4_ := Aside0.mk (below_step (z_107) hb)
                          clear HO_13
                          clear BK349
                          clear BK356
                          clear HB
                          have HO_13 := n0_
                          have HO375 := n1_
                          have BK349 := n2_
                          have BK356 := n3_
                          have HB := n4_
                          clear n0_ n1_ n2_ n3_ n4_
                          clear hb ho36
                          refine hK.out _ _ ⟨((HB.out.cell (World.block_lt_of_cell? w _ hw379_0)).trans hw379_0), ((HB.out.cell (World.block_lt_of_cell? w _ hw379_1)).trans hw379_1), ((HB.out.cell (World.block_lt_of_cell? w _ hw379_2)).trans hw379_2), ((HB.out.cell (World.block_lt_of_cell? w _ hw379_3)).trans hw379_3), ((HB.out.cell (World.block_lt_of_cell? w _ hw379_4)).trans hw379_4), ((HB.out.cell (World.block_lt_of_cell? w _ hw379_5)).trans hw379_5)⟩ (fun hHeld => ?_)
                          clear hK K
                          refine norm_ (a' := ?_) ?_ ?_
                          rotate_left
                          · show Act.put _ (some 59) _ = _
                            simp only [Act.put, List.setIfInBounds_toArray, List.set_cons_zero, List.set_cons_succ, i64_w, i32_w]
                            rfl
                          refine one_ (i := 2) (N := some 61) #[T,T,T,T,T,T,T,T,F,F,F] rfl rfl (one_of HT_.out (z_0)) (z_5) (fun K hK => ?_)
                          refine Kd.R_append_rows_step k83 (w0 := w) w.heap.size (z_1) (.tmp 59) (.tmp 60) 48 83 (.agg #[(.string ⟨#[]⟩), (.int .i64 0), (.int .i64 0), (.string ⟨#[]⟩), (.int .i64 0), (.int .i64 0)]) 64 rfl Try.underlying48 info83 rfl (z_5) (z_6) v374 y373 l0 _ _ _ (fun k_ => some k_ ≠ (u13 : Value).ownBlock) (fun _ => False) rfl rfl ?aO ?aR (fun _ _ h => h) (fun _ h => h.elim) ?aF ?aB ?aS ?aL ?_
                          (case aR => exact z_67)
                          (case aB => exact z_113)
                          (case aF => exact (fun k_ hk => Kd.fresh' (Kd.Q_lt (z_112)) k_ hk))
                          (case aO => exact (by (with_reducible repeat (first | apply Kd.R_alloc | apply Kd.R_drewN | apply Kd.R_drew)); exact Kd.R_mono HO375.out (fun _ hk => hk.2)))
                          (case aS => exact z_114)
                          (case aL => have := LMc31.out; omega)
                          intro v377 w37 ho hb hg hat
                          rw [← Ny376.out] at ho
                          have n0_ := Aside0.mk (Kd.Q_after (ok := (fun _ => True)) (z_112) hg hat)
                          have n1_ := Aside0.mk (blk_grown (g := gb349) (o := .cells #[.string x350000_2, .int .i64 x350001_2, .int .i64 x350002_2, .string x350003_2, .int .i64 x350004_2] 26 (0, 0)) (z_104) hg (Kd.R_ne HO375.out BK349.out (z_5)))
                          have n2_ := Aside0.mk (blk_grown (g := gb356) (o := .cells #[.string t350, .int .i64 t351, .int .i64 t352, .string t353, .int .i64 t354] 26 (0, 0)) (z_111) hg (Kd.R_ne HO375.out BK356.out (z_5)))
                          have n3_ := Aside0.mk (hb)
                          have n4_ := Aside0.mk (ho)
                          clear HO_13
                          clear BK349
                          clear BK356
                          clear HB
                          clear HO375
                          have HO_13 := n0_
                          have BK349 := n1_
                          have BK356 := n2_
                          have HB := n3_
                          have HO378 := n4_
                          clear n0_ n1_ n2_ n3_ n4_
                          clear ho hb hg hat
                          refine hK.out _ _ ⟨((HB.out.cell (World.block_lt_of_cell? w _ hw379_0)).trans hw379_0), ((HB.out.cell (World.block_lt_of_cell? w _ hw379_1)).trans hw379_1), ((HB.out.cell (World.block_lt_of_cell? w _ hw379_2)).trans hw379_2), ((HB.out.cell (World.block_lt_of_cell? w _ hw379_3)).trans hw379_3), ((HB.out.cell (World.block_lt_of_cell? w _ hw379_4)).trans hw379_4), ((HB.out.cell (World.block_lt_of_cell? w _ hw379_5)).trans hw379_5)⟩ (fun hHeld => ?_)
                          clear hK K
                          refine norm_ (a' := ?_) ?_ ?_
                          rotate_left
                          · show Act.put _ (some 61) _ = _
                            simp only [Act.put, List.setIfInBounds_toArray, List.set_cons_zero, List.set_cons_succ, i64_w, i32_w]
                            rfl
                          refine pure_ (i := 8) (N := some 8) (v := ?_) (a' := ?_) #[T,T,T,T,T,T,T,T,T,F,F] rfl rfl (any_of HT_.out (z_0)) (fun _ _ _ h => h) (Or.inl ⟨z_1, ?_⟩) ?_ ?_
                          rotate_left
                          · intro w'
                            go_simp
                            with_reducible rfl
                          rotate_left
                          · simp only [Act.put, List.setIfInBounds_toArray, List.set_cons_zero, List.set_cons_succ, i64_w, i32_w]
                            rfl
                          refine one_ (i := 9) (N := none) #[T,T,T,T,T,T,T,T,T,T,F] rfl rfl (one_of HT_.out (z_0)) (z_5) (fun K hK => ?_)
                          have hs38 : w37.cell? ⟨gb349, 0, none⟩ = some (.string x350000_2) := (blk_cell BK349.out 0).trans rfl
                          have hfs38 := blk_frozen BK349.out 0
                          have hns38_1 := NB356_349.out
                          have hms38_1 := NB349_356.out
                          have hs39 : w37.cell? ⟨gb349, 1, none⟩ = some (.int .i64 x350001_2) := (blk_cell BK349.out 1).trans rfl
                          have hfs39 := blk_frozen BK349.out 1
                          have hns39_1 := NB356_349.out
                          have hms39_1 := NB349_356.out
                          have hs40 : w37.cell? ⟨gb349, 2, none⟩ = some (.int .i64 x350002_2) := (blk_cell BK349.out 2).trans rfl
                          have hfs40 := blk_frozen BK349.out 2
                          have hns40_1 := NB356_349.out
                          have hms40_1 := NB349_356.out
                          have hs41 : w37.cell? ⟨gb349, 3, none⟩ = some (.string x350003_2) := (blk_cell BK349.out 3).trans rfl
                          have hfs41 := blk_frozen BK349.out 3
                          have hns41_1 := NB356_349.out
                          have hms41_1 := NB349_356.out
                          have hs42 : w37.cell? ⟨gb349, 4, none⟩ = some (.int .i64 x350004_2) := (blk_cell BK349.out 4).trans rfl
                          have hfs42 := blk_frozen BK349.out 4
                          have hns42_1 := NB356_349.out
                          have hms42_1 := NB349_356.out
                          refine skip_ (w1 := ?_) (z_1) rfl ?_ ?_
                          rotate_left
                          · go_simp
                            rfl
                          refine hK.out _ _ ⟨((cell_far (p := ⟨gb349, _, none⟩) (z_116) _).trans (((cell_far (p := ⟨gb349, _, none⟩) (z_116) _).trans (((cell_far (p := ⟨gb349, _, none⟩) (z_116) _).trans (((cell_far (p := ⟨gb349, _, none⟩) (z_116) _).trans (((cell_far (p := ⟨gb349, _, none⟩) (z_116) _).trans (hHeld.1)))))))))), ((cell_far (p := ⟨gb349, _, none⟩) (z_118) _).trans (((cell_far (p := ⟨gb349, _, none⟩) (z_118) _).trans (((cell_far (p := ⟨gb349, _, none⟩) (z_118) _).trans (((cell_far (p := ⟨gb349, _, none⟩) (z_118) _).trans (((cell_far (p := ⟨gb349, _, none⟩) (z_118) _).trans (hHeld.2.1)))))))))), ((cell_far (p := ⟨gb349, _, none⟩) (z_120) _).trans (((cell_far (p := ⟨gb349, _, none⟩) (z_120) _).trans (((cell_far (p := ⟨gb349, _, none⟩) (z_120) _).trans (((cell_far (p := ⟨gb349, _, none⟩) (z_120) _).trans (((cell_far (p := ⟨gb349, _, none⟩) (z_120) _).trans (hHeld.2.2.1)))))))))), ((cell_far (p := ⟨gb349, _, none⟩) (z_122) _).trans (((cell_far (p := ⟨gb349, _, none⟩) (z_122) _).trans (((cell_far (p := ⟨gb349, _, none⟩) (z_122) _).trans (((cell_far (p := ⟨gb349, _, none⟩) (z_122) _).trans (((cell_far (p := ⟨gb349, _, none⟩) (z_122) _).trans (hHeld.2.2.2.1)))))))))), ((cell_far (p := ⟨gb349, _, none⟩) (z_124) _).trans (((cell_far (p := ⟨gb349, _, none⟩) (z_124) _).trans (((cell_far (p := ⟨gb349, _, none⟩) (z_124) _).trans (((cell_far (p := ⟨gb349, _, none⟩) (z_124) _).trans (((cell_far (p := ⟨gb349, _, none⟩) (z_124) _).trans (hHeld.2.2.2.2.1)))))))))), ((cell_far (p := ⟨gb349, _, none⟩) (z_126) _).trans (((cell_far (p := ⟨gb349, _, none⟩) (z_126) _).trans (((cell_far (p := ⟨gb349, _, none⟩) (z_126) _).trans (((cell_far (p := ⟨gb349, _, none⟩) (z_126) _).trans (((cell_far (p := ⟨gb349, _, none⟩) (z_126) _).trans (hHeld.2.2.2.2.2))))))))))⟩ (fun hHeld => ?_)
                          clear hK K
                          refine pure_ (i := 10) (N := some 10) (v := ?_) (a' := ?_) #[T,T,T,T,T,T,T,T,T,T,T] rfl rfl (any_of HT_.out (z_0)) (fun _ _ _ h => h) (Or.inl ⟨z_1, ?_⟩) ?_ ?_
                          rotate_left
                          · intro w'
                            go_simp
                            with_reducible rfl
                          rotate_left
                          · simp only [Act.put, List.setIfInBounds_toArray, List.set_cons_zero, List.set_cons_succ, i64_w, i32_w]
                            rfl
                          refine done_ (done_of HT_.out (z_0)) ?_
                          try go_wp2
                          refine bodyPost_ret (results_list (rs := [.tmp 8, .cell 9 26, .tmp 10]) rfl (z_12) (.tmp (.cell gb349 26 #[.string ((rd_T83 l0 x14_2).f0.f0), .int .i64 ((rd_T83 l0 x14_2).f0.f1), .int .i64 ((rd_T83 l0 x14_2).f0.f2), .string ((rd_T83 l0 x14_2).f0.f3), .int .i64 ((rd_T83 l0 x14_2).f0.f4)] (0, 0) _ rfl (by (with_reducible repeat (first | refine blk_drewN ?_ _ | refine blk_drew ?_ | refine blk_alloc ?_ _)); refine blk_put (cs := #[.string ((rd_T83 l0 x14_2).f0.f0), .int .i64 ((rd_T83 l0 x14_2).f0.f1), .int .i64 ((rd_T83 l0 x14_2).f0.f2), .string ((rd_T83 l0 x14_2).f0.f3), .int .i64 x350004_2]) ?_ 4 _ rfl; (with_reducible repeat (first | refine blk_drewN ?_ _ | refine blk_drew ?_ | refine blk_alloc ?_ _)); refine blk_put (cs := #[.string ((rd_T83 l0 x14_2).f0.f0), .int .i64 ((rd_T83 l0 x14_2).f0.f1), .int .i64 ((rd_T83 l0 x14_2).f0.f2), .string x350003_2, .int .i64 x350004_2]) ?_ 3 _ rfl; (with_reducible repeat (first | refine blk_drewN ?_ _ | refine blk_drew ?_ | refine blk_alloc ?_ _)); refine blk_put (cs := #[.string ((rd_T83 l0 x14_2).f0.f0), .int .i64 ((rd_T83 l0 x14_2).f0.f1), .int .i64 x350002_2, .string x350003_2, .int .i64 x350004_2]) ?_ 2 _ rfl; (with_reducible repeat (first | refine blk_drewN ?_ _ | refine blk_drew ?_ | refine blk_alloc ?_ _)); refine blk_put (cs := #[.string ((rd_T83 l0 x14_2).f0.f0), .int .i64 x350001_2, .int .i64 x350002_2, .string x350003_2, .int .i64 x350004_2]) ?_ 1 _ rfl; (with_reducible repeat (first | refine blk_drewN ?_ _ | refine blk_drew ?_ | refine blk_alloc ?_ _)); refine blk_put (cs := #[.string x350000_2, .int .i64 x350001_2, .int .i64 x350002_2, .string x350003_2, .int .i64 x350004_2]) ?_ 0 _ rfl; (with_reducible repeat (first | refine blk_drewN ?_ _ | refine blk_drew ?_ | refine blk_alloc ?_ _)); exact BK349.out) Try.underlying26 rfl (z_0) (.tmp .nil)))) rfl ?_
                          exact ⟨_, z_13, Kd.Q_of_R (by (with_reducible repeat (first | apply Kd.R_alloc | apply Kd.R_drewN | apply Kd.R_drew)); exact Kd.R_mono (Kd.R_far (p := ⟨gb349, 4, none⟩) (Kd.R_far (p := ⟨gb349, 3, none⟩) (Kd.R_far (p := ⟨gb349, 2, none⟩) (Kd.R_far (p := ⟨gb349, 1, none⟩) (Kd.R_far (p := ⟨gb349, 0, none⟩) (Kd.R_types HO378.out BK349.out (z_5)) (fun _ hk => hk.2) (.string ((rd_T83 l0 x14_2).f0.f0))) (fun _ hk => hk.2) (.int .i64 ((rd_T83 l0 x14_2).f0.f1))) (fun _ hk => hk.2) (.int .i64 ((rd_T83 l0 x14_2).f0.f2))) (fun _ hk => hk.2) (.string ((rd_T83 l0 x14_2).f0.f3))) (fun _ hk => hk.2) (.int .i64 ((rd_T83 l0 x14_2).f0.f4))) (fun _ hk => trivial)), z_107⟩
                        · rw [if_neg c33] at H
                          exact absurd H (z_12)
                      · rw [if_neg c32] at H
                        exact absurd H (z_12)
                    · rw [if_neg c31] at H
                      exact absurd H (z_12)
                  · replace c30 := Bool.eq_false_iff.mpr c30
                    subst c30
                    rw [if_neg (show ¬ (false = true) by decide)] at H
                    by_cases c43 : 0 ≤ x14_2
                    · rw [if_pos c43] at H
                      have c43b0 : decide (0 ≤ x14_2) = true := decide_eq_true c43
                      clear c43
                      by_cases c44 : x14_2 < (l0.length : Int)
                      · rw [if_pos c44] at H
                        have c44b0 : decide (x14_2 < (l0.length : Int)) = true := decide_eq_true c44
                        clear c44
                        by_cases c45 : ((rd_T83 l0 x14_2).f0.f0).toList = a2.toList
                        · rw [if_pos c45] at H
                          have c45b0 : (((rd_T83 l0 x14_2).f0.f0).toList == a2.toList) = true := beq_iff_eq.mpr c45
                          have c45b1 : (((rd_T83 l0 x14_2).f0.f0).toList != a2.toList) = false := bne_eq_false_iff_eq.mpr c45
                          clear c45
                          have H' := Aside0.mk H
                          clear H
                          have p380 : 0 ≤ (x14_2 : Int) := of_decide_eq_true (z_7)
                          have q380 : x14_2 < (l0.length : Int) := of_decide_eq_true (z_7)
                          obtain ⟨ad380, e380, hx380_0, hx380_1, hx380_2, hx380_3, hx380_4, hx380_5⟩ := at_T83 HR0.out x14_2 p380 q380
                          cases e380
                          replace hx380_0 := (HB.out.cell (World.block_lt_of_cell? w _ hx380_0)).trans hx380_0
                          replace hx380_1 := (HB.out.cell (World.block_lt_of_cell? w _ hx380_1)).trans hx380_1
                          replace hx380_2 := (HB.out.cell (World.block_lt_of_cell? w _ hx380_2)).trans hx380_2
                          replace hx380_3 := (HB.out.cell (World.block_lt_of_cell? w _ hx380_3)).trans hx380_3
                          replace hx380_4 := (HB.out.cell (World.block_lt_of_cell? w _ hx380_4)).trans hx380_4
                          replace hx380_5 := (HB.out.cell (World.block_lt_of_cell? w _ hx380_5)).trans hx380_5
                          replace p380 := eq_true p380
                          replace q380 := eq_true q380
                          go_wp2
                          go_roundg kj26
                          case measure => have := HJ5.out; have := HK2.out; have := HJ26.out; omega
                          case rel => exact ⟨(x13_2), (wrap64 (x14_2 + 1)), (x350000_2), (x350001_2), (x350002_2), (x350003_2), (x350004_2), (z_3), H', ⟨by have := HJ5.out; have := HK2.out; have := HJ26.out; omega⟩, ⟨z_112⟩, ⟨z_104⟩, ⟨z_111⟩, ⟨z_107⟩⟩
                        · rw [if_neg c45] at H
                          have c45b0 : (((rd_T83 l0 x14_2).f0.f0).toList == a2.toList) = false := beq_eq_false_iff_ne.mpr c45
                          have c45b1 : (((rd_T83 l0 x14_2).f0.f0).toList != a2.toList) = true := bne_iff_ne.mpr c45
                          by_cases c46 : x13_2.length < 2199023255552
                          · rw [if_pos c46] at H
                            have LMc46 := Aside0.mk c46
                            clear c46
                            obtain ⟨y382, hy382⟩ : ∃ y_ : List (S83), y_ = (x13_2 ++ [(⟨(⟨(rd_T83 l0 x14_2).f0.f0, (rd_T83 l0 x14_2).f0.f1, (rd_T83 l0 x14_2).f0.f2, (rd_T83 l0 x14_2).f0.f3, (rd_T83 l0 x14_2).f0.f4⟩ : S26), (rd_T83 l0 x14_2).f1⟩ : S83)]) := ⟨_, rfl⟩
                            replace H : (spec_KeptAsk.l0 kj26 l0 a2 a3 y382 (wrap64 (x14_2 + 1)) t350 t351 t352 t353 t354) = some (r1, r2, r3, r4, r5, r6, r7) := by first | (rw [hy382]; with_reducible exact H) | (have H2_ := (Option.bind_some _ _).symm.trans H; rw [hy382]; with_reducible exact H2_) | (have H2_ := (Option.bind_some _ _).symm.trans H; with_reducible exact H2_) | with_reducible exact H | (rw [hy382]; exact H) | exact H
                            have Ny382 := Aside0.mk hy382
                            clear hy382
                            have H' := Aside0.mk H
                            clear H
                            have p380 : 0 ≤ (x14_2 : Int) := of_decide_eq_true (z_7)
                            have q380 : x14_2 < (l0.length : Int) := of_decide_eq_true (z_7)
                            obtain ⟨ad380, e380, hx380_0, hx380_1, hx380_2, hx380_3, hx380_4, hx380_5⟩ := at_T83 HR0.out x14_2 p380 q380
                            cases e380
                            replace hx380_0 := (HB.out.cell (World.block_lt_of_cell? w _ hx380_0)).trans hx380_0
                            replace hx380_1 := (HB.out.cell (World.block_lt_of_cell? w _ hx380_1)).trans hx380_1
                            replace hx380_2 := (HB.out.cell (World.block_lt_of_cell? w _ hx380_2)).trans hx380_2
                            replace hx380_3 := (HB.out.cell (World.block_lt_of_cell? w _ hx380_3)).trans hx380_3
                            replace hx380_4 := (HB.out.cell (World.block_lt_of_cell? w _ hx380_4)).trans hx380_4
                            replace hx380_5 := (HB.out.cell (World.block_lt_of_cell? w _ hx380_5)).trans hx380_5
                            replace p380 := eq_true p380
                            replace q380 := eq_true q380
                            have p381 : 0 ≤ (x14_2 : Int) := of_decide_eq_true (z_7)
                            have q381 : x14_2 < (l0.length : Int) := of_decide_eq_true (z_7)
                            obtain ⟨ad381, e381, hx381_0, hx381_1, hx381_2, hx381_3, hx381_4, hx381_5⟩ := at_T83 HR0.out x14_2 p381 q381
                            obtain rfl : ad380 = ad381 := (by injection e381)
                            replace hx381_0 := (HB.out.cell (World.block_lt_of_cell? w _ hx381_0)).trans hx381_0
                            replace hx381_1 := (HB.out.cell (World.block_lt_of_cell? w _ hx381_1)).trans hx381_1
                            replace hx381_2 := (HB.out.cell (World.block_lt_of_cell? w _ hx381_2)).trans hx381_2
                            replace hx381_3 := (HB.out.cell (World.block_lt_of_cell? w _ hx381_3)).trans hx381_3
                            replace hx381_4 := (HB.out.cell (World.block_lt_of_cell? w _ hx381_4)).trans hx381_4
                            replace hx381_5 := (HB.out.cell (World.block_lt_of_cell? w _ hx381_5)).trans hx381_5
                            replace p381 := eq_true p381
                            replace q381 := eq_true q381
                            go_wp2_with (first | ((with_reducible refine gate_builtin (b := .append) (xs := #[.tmp 75, .tmp 80]) rfl ?_); at_builtin; refine Kd.Q_append k83 (w0 := w) w.heap.size rfl (.tmp 75) (.tmp 80) 48 83 (.agg #[(.string ⟨#[]⟩), (.int .i64 0), (.int .i64 0), (.string ⟨#[]⟩), (.int .i64 0), (.int .i64 0)]) 64 rfl Try.underlying48 info83 rfl (z_5) (z_6) u13 x13_2 (⟨(⟨(rd_T83 l0 x14_2).f0.f0, (rd_T83 l0 x14_2).f0.f1, (rd_T83 l0 x14_2).f0.f2, (rd_T83 l0 x14_2).f0.f3, (rd_T83 l0 x14_2).f0.f4⟩ : S26), (rd_T83 l0 x14_2).f1⟩ : S83) [.string ((rd_T83 l0 x14_2).f0.f0), .int .i64 ((rd_T83 l0 x14_2).f0.f1), .int .i64 ((rd_T83 l0 x14_2).f0.f2), .string ((rd_T83 l0 x14_2).f0.f3), .int .i64 ((rd_T83 l0 x14_2).f0.f4), .int .i64 ((rd_T83 l0 x14_2).f1)] (fun _ => True) (fun _ => False) rfl rfl ?aP (fun _ hk => hk.elim) ?aF ?aO ?aB ?aS ?aL ?_; (case aP => exact k83_mkM _ _ _ (⟨(⟨(rd_T83 l0 x14_2).f0.f0, (rd_T83 l0 x14_2).f0.f1, (rd_T83 l0 x14_2).f0.f2, (rd_T83 l0 x14_2).f0.f3, (rd_T83 l0 x14_2).f0.f4⟩ : S26), (rd_T83 l0 x14_2).f1⟩ : S83)); (case aB => exact z_113); (case aF => exact z_53); (case aO => exact z_127); (case aS => exact z_114); (case aL => have := LMc46.out; omega); intro v383 w47 ho hb hg hat; rw [← Ny382.out] at ho; have n0_ := Aside0.mk (blk_grown (g := gb349) (o := .cells #[.string x350000_2, .int .i64 x350001_2, .int .i64 x350002_2, .string x350003_2, .int .i64 x350004_2] 26 (0, 0)) (z_104) hg (Kd.Q_ne HO_13.out BK349.out (z_5))); have n1_ := Aside0.mk (blk_grown (g := gb356) (o := .cells #[.string t350, .int .i64 t351, .int .i64 t352, .string t353, .int .i64 t354] 26 (0, 0)) (z_111) hg (Kd.Q_ne HO_13.out BK356.out (z_5))); have n2_ := Aside0.mk (hb); have n3_ := Aside0.mk (ho); clear BK349; clear BK356; clear HB; clear HO_13; have BK349 := n0_; have BK356 := n1_; have HB := n2_; have HO384 := n3_; clear n0_ n1_ n2_ n3_; clear ho hb hg hat))
                            go_roundg kj26
                            case measure => have := HJ5.out; have := HK2.out; have := HJ26.out; omega
                            case rel => exact ⟨(y382), (wrap64 (x14_2 + 1)), (x350000_2), (x350001_2), (x350002_2), (x350003_2), (x350004_2), (z_3), H', ⟨by have := HJ5.out; have := HK2.out; have := HJ26.out; omega⟩, ⟨by (with_reducible repeat (first | apply Kd.Q_alloc | apply Kd.Q_drewN | apply Kd.Q_drew)); exact HO384.out⟩, ⟨z_104⟩, ⟨z_111⟩, ⟨z_107⟩⟩
                          · rw [if_neg c46] at H
                            exact absurd H (z_12)
                      · rw [if_neg c44] at H
                        exact absurd H (z_12)
                    · rw [if_neg c43] at H
                      exact absurd H (z_12)
            · rw [if_neg c26] at H
              have c26b0 : decide (x14_2 < (l0.length : Int)) = false := decide_eq_false c26
              clear c26
              by_cases c48 : x13_2.length < 2199023255552
              · rw [if_pos c48] at H
                have LMc48 := Aside0.mk c48
                clear c48
                obtain ⟨y365, hy365⟩ : ∃ y_ : List (S83), y_ = (x13_2 ++ [(⟨(⟨t350, t351, t352, t353, t354⟩ : S26), wrap64 (a3 + t354)⟩ : S83)]) := ⟨_, rfl⟩
                replace H : (if (y365.length : Int) > 5 then (if 1 ≤ (y365.length : Int) then (some ((y365.drop (1 : Int).toNat), t350, t351, t352, t353, t354, false)) else (none)) else (some (y365, t350, t351, t352, t353, t354, false))) = some (r1, r2, r3, r4, r5, r6, r7) := by first | (rw [hy365]; with_reducible exact H) | (have H2_ := (Option.bind_some _ _).symm.trans H; rw [hy365]; with_reducible exact H2_) | (have H2_ := (Option.bind_some _ _).symm.trans H; with_reducible exact H2_) | with_reducible exact H | (rw [hy365]; exact H) | exact H
                have Ny365 := Aside0.mk hy365
                clear hy365
                by_cases c49 : (y365.length : Int) > 5
                · rw [if_pos c49] at H
                  have c49b0 : decide (5 < (y365.length : Int)) = true := decide_eq_true c49
                  have c49b1 : decide (5 < y365.length) = true := decide_eq_true (z_6)
                  clear c49
                  by_cases c50 : 1 ≤ (y365.length : Int)
                  · rw [if_pos c50] at H
                    have c50b0 := eq_true c50
                    have c50b1 : decide (1 ≤ (y365.length : Int)) = true := decide_eq_true c50
                    clear c50
                    obtain ⟨y368, hy368⟩ : ∃ y_ : List (S83), y_ = (y365.drop (1 : Int).toNat) := ⟨_, rfl⟩
                    replace H : (some (y368, t350, t351, t352, t353, t354, false)) = some (r1, r2, r3, r4, r5, r6, r7) := by first | (rw [hy368]; with_reducible exact H) | (have H2_ := (Option.bind_some _ _).symm.trans H; rw [hy368]; with_reducible exact H2_) | (have H2_ := (Option.bind_some _ _).symm.trans H; with_reducible exact H2_) | with_reducible exact H | (rw [hy368]; exact H) | exact H
                    have Ny368 := Aside0.mk hy368
                    clear hy368
                    simp only [Option.some.injEq, Prod.mk.injEq] at H
                    obtain ⟨rfl, rfl, rfl, rfl, rfl, rfl, rfl⟩ := H
                    have hnb51 := NB356_349.out
                    have hnc51 := NB349_356.out
                    have hcz52_0 : wr.cell? ⟨gb356, 0, none⟩ = some (.string t350) := (blk_cell BK356.out 0).trans rfl
                    have hcz52_1 : wr.cell? ⟨gb356, 1, none⟩ = some (.int .i64 t351) := (blk_cell BK356.out 1).trans rfl
                    have hcz52_2 : wr.cell? ⟨gb356, 2, none⟩ = some (.int .i64 t352) := (blk_cell BK356.out 2).trans rfl
                    have hcz52_3 : wr.cell? ⟨gb356, 3, none⟩ = some (.string t353) := (blk_cell BK356.out 3).trans rfl
                    have hcz52_4 : wr.cell? ⟨gb356, 4, none⟩ = some (.int .i64 t354) := (blk_cell BK356.out 4).trans rfl
                    have hfz52_0 := blk_frozen BK356.out 0
                    have hfz52_1 := blk_frozen BK356.out 1
                    have hfz52_2 := blk_frozen BK356.out 2
                    have hfz52_3 := blk_frozen BK356.out 3
                    have hfz52_4 := blk_frozen BK356.out 4
                    try go_wp2_with (first | ((with_reducible refine gate_builtin (b := .append) (xs := #[.tmp 82, .tmp 89]) rfl ?_); at_builtin; refine Kd.Q_append k83 (w0 := w) w.heap.size rfl (.tmp 82) (.tmp 89) 48 83 (.agg #[(.string ⟨#[]⟩), (.int .i64 0), (.int .i64 0), (.string ⟨#[]⟩), (.int .i64 0), (.int .i64 0)]) 64 rfl Try.underlying48 info83 rfl (z_5) (z_6) u13 x13_2 (⟨(⟨t350, t351, t352, t353, t354⟩ : S26), wrap64 (a3 + t354)⟩ : S83) [.string t350, .int .i64 t351, .int .i64 t352, .string t353, .int .i64 t354, .int .i64 (wrap64 (a3 + t354))] (fun _ => True) (fun _ => False) rfl rfl ?aP (fun _ hk => hk.elim) ?aF ?aO ?aB ?aS ?aL ?_; (case aP => exact k83_mkM _ _ _ (⟨(⟨t350, t351, t352, t353, t354⟩ : S26), wrap64 (a3 + t354)⟩ : S83)); (case aB => exact z_113); (case aF => exact z_53); (case aO => exact z_127); (case aS => exact z_114); (case aL => have := LMc48.out; omega); intro v366 w53 ho hb hg hat; rw [← Ny365.out] at ho; have n0_ := Aside0.mk (blk_grown (g := gb349) (o := .cells #[.string x350000_2, .int .i64 x350001_2, .int .i64 x350002_2, .string x350003_2, .int .i64 x350004_2] 26 (0, 0)) (z_104) hg (Kd.Q_ne HO_13.out BK349.out (z_5))); have n1_ := Aside0.mk (blk_grown (g := gb356) (o := .cells #[.string t350, .int .i64 t351, .int .i64 t352, .string t353, .int .i64 t354] 26 (0, 0)) (z_111) hg (Kd.Q_ne HO_13.out BK356.out (z_5))); have n2_ := Aside0.mk (hb); have n3_ := Aside0.mk (ho); clear BK349; clear BK356; clear HB; clear HO_13; have BK349 := n0_; have BK356 := n1_; have HB := n2_; have HO367 := n3_; clear n0_ n1_ n2_ n3_; clear ho hb hg hat; obtain ⟨Ao54, co54, eo54, _⟩ := Kd.Q_slice HO367.out; subst eo54; have q55 : (1 : Int) ≤ ((y365.length : Int) : Int) := of_decide_eq_true (z_7); obtain ⟨i055, hi055, _, hsz55, _⟩ := info_parts info83; have hcut55 := cut_from (P := Try.prog) 48 83 .i64 Try.underlying48 hi055 6 hsz55 Ao54 y365.length co54 1 (z_6) q55; have hr55 := Kd.Q_drop (k := (1 : Int).toNat) HO367.out (z_6); obtain ⟨A55, hA55⟩ : ∃ A1, A1 = (if co54 = (1 : Int).toNat then Ao54 else (Ao54 : Option Addr).map (·.add ((1 : Int).toNat * 6))) := ⟨_, rfl⟩; obtain ⟨c55, hc55⟩ : ∃ c1, c1 = co54 - (1 : Int).toNat := ⟨_, rfl⟩; have hy55 : y368.length = y365.length - (1 : Int).toNat := (by rw [Ny368.out, List.length_drop]); rw [← Ny368.out] at hr55; rw [← hy55, ← hA55, ← hc55] at hcut55; replace hr55 : Kd.Q k83 83 w53 w.heap.size (fun _ => True) (.slice A55 y368.length c55) y368 := (by rw [hA55, hc55, hy55]; exact hr55); have HE55 : Aside0 ((Value.slice A55 y368.length c55).ownBlock = (.slice Ao54 y365.length co54 : Value).ownBlock) := ⟨by rw [hA55]; split <;> (cases (Ao54 : Option Addr) <;> rfl)⟩; clear hy55 hi055 hsz55 HO367 hA55 hc55; have HO370 := Aside0.mk hr55; clear hr55; replace q55 := eq_true q55))
                    have n0_ := Aside0.mk (Kd.Q_drew HO370.out)
                    have n1_ := Aside0.mk (blk_drew BK349.out)
                    have n2_ := Aside0.mk (blk_drew BK356.out)
                    have n3_ := Aside0.mk (below_drew1 HB.out)
                    clear HO370
                    clear BK349
                    clear BK356
                    clear HB
                    have HO370 := n0_
                    have BK349 := n1_
                    have BK356 := n2_
                    have HB := n3_
                    clear n0_ n1_ n2_ n3_
                    refine start_ (n := 5) (S := fun w' => w'.cell? ⟨gb356, 0, none⟩ = some (.string t350) ∧ w'.cell? ⟨gb356, 1, none⟩ = some (.int .i64 t351) ∧ w'.cell? ⟨gb356, 2, none⟩ = some (.int .i64 t352) ∧ w'.cell? ⟨gb356, 3, none⟩ = some (.string t353) ∧ w'.cell? ⟨gb356, 4, none⟩ = some (.int .i64 t354)) (ds := []) #[F,F,F,F,F] (z_0) rfl rfl ⟨(blk_cell BK356.out 0).trans rfl, (blk_cell BK356.out 1).trans rfl, (blk_cell BK356.out 2).trans rfl, (blk_cell BK356.out 3).trans rfl, (blk_cell BK356.out 4).trans rfl⟩ (fun hHeld => ?_)
                    generalize w53.drew = w56 at HO370 BK349 BK356 HB hHeld ⊢
                    refine pure_ (i := 0) (N := some 96) (v := ?_) (a' := ?_) #[T,F,F,F,F] rfl rfl (z_0) (fun _ _ _ h => h) (Or.inl ⟨z_1, ?_⟩) ?_ ?_
                    rotate_left
                    · intro w'
                      go_simp
                      with_reducible rfl
                    rotate_left
                    · simp only [Act.put, List.setIfInBounds_toArray, List.set_cons_zero, List.set_cons_succ, i64_w, i32_w]
                      rfl
                    refine pure_ (i := 2) (N := some 8) (v := ?_) (a' := ?_) #[T,F,T,F,F] rfl rfl (z_0) (fun _ _ _ h => h) (Or.inl ⟨z_1, ?_⟩) ?_ ?_
                    rotate_left
                    · intro w'
                      go_simp
                      with_reducible rfl
                    rotate_left
                    · simp only [Act.put, List.setIfInBounds_toArray, List.set_cons_zero, List.set_cons_succ, i64_w, i32_w]
                      rfl
                    refine take_ (i := 1) (N := some 97) (v := ?_) (a' := ?_) #[T,T,T,F,F] rfl rfl (z_0) (fun _ _ _ h => h) (Or.inl ⟨z_1, ?_⟩) hHeld ?_ ?_
                    rotate_left
                    · rintro w' ⟨s0, s1, s2, s3, s4⟩
                      go_simp
                      with_reducible rfl
                    rotate_left
                    · simp only [Act.put, List.setIfInBounds_toArray, List.set_cons_zero, List.set_cons_succ, i64_w, i32_w]
                      rfl
                    refine one_ (i := 3) (N := none) #[T,T,T,T,F] rfl rfl (z_0) (z_5) (fun K hK => ?_)
                    have hs57 : w56.cell? ⟨gb349, 0, none⟩ = some (.string x350000_2) := (blk_cell BK349.out 0).trans rfl
                    have hfs57 := blk_frozen BK349.out 0
                    have hns57_1 := NB356_349.out
                    have hms57_1 := NB349_356.out
                    have hs58 : w56.cell? ⟨gb349, 1, none⟩ = some (.int .i64 x350001_2) := (blk_cell BK349.out 1).trans rfl
                    have hfs58 := blk_frozen BK349.out 1
                    have hns58_1 := NB356_349.out
                    have hms58_1 := NB349_356.out
                    have hs59 : w56.cell? ⟨gb349, 2, none⟩ = some (.int .i64 x350002_2) := (blk_cell BK349.out 2).trans rfl
                    have hfs59 := blk_frozen BK349.out 2
                    have hns59_1 := NB356_349.out
                    have hms59_1 := NB349_356.out
                    have hs60 : w56.cell? ⟨gb349, 3, none⟩ = some (.string x350003_2) := (blk_cell BK349.out 3).trans rfl
                    have hfs60 := blk_frozen BK349.out 3
                    have hns60_1 := NB356_349.out
                    have hms60_1 := NB349_356.out
                    have hs61 : w56.cell? ⟨gb349, 4, none⟩ = some (.int .i64 x350004_2) := (blk_cell BK349.out 4).trans rfl
                    have hfs61 := blk_frozen BK349.out 4
                    have hns61_1 := NB356_349.out
                    have hms61_1 := NB349_356.out
                    refine skip_ (w1 := ?_) (z_1) rfl ?_ ?_
                    rotate_left
                    · go_simp
                      rfl
                    refine hK.out _ _ ⟨((cell_far (p := ⟨gb349, _, none⟩) NB356_349.out _).trans (((cell_far (p := ⟨gb349, _, none⟩) NB356_349.out _).trans (((cell_far (p := ⟨gb349, _, none⟩) NB356_349.out _).trans (((cell_far (p := ⟨gb349, _, none⟩) NB356_349.out _).trans (((cell_far (p := ⟨gb349, _, none⟩) NB356_349.out _).trans (hHeld.1)))))))))), ((cell_far (p := ⟨gb349, _, none⟩) NB356_349.out _).trans (((cell_far (p := ⟨gb349, _, none⟩) NB356_349.out _).trans (((cell_far (p := ⟨gb349, _, none⟩) NB356_349.out _).trans (((cell_far (p := ⟨gb349, _, none⟩) NB356_349.out _).trans (((cell_far (p := ⟨gb349, _, none⟩) NB356_349.out _).trans (hHeld.2.1)))))))))), ((cell_far (p := ⟨gb349, _, none⟩) NB356_349.out _).trans (((cell_far (p := ⟨gb349, _, none⟩) NB356_349.out _).trans (((cell_far (p := ⟨gb349, _, none⟩) NB356_349.out _).trans (((cell_far (p := ⟨gb349, _, none⟩) NB356_349.out _).trans (((cell_far (p := ⟨gb349, _, none⟩) NB356_349.out _).trans (hHeld.2.2.1)))))))))), ((cell_far (p := ⟨gb349, _, none⟩) NB356_349.out _).trans (((cell_far (p := ⟨gb349, _, none⟩) NB356_349.out _).trans (((cell_far (p := ⟨gb349, _, none⟩) NB356_349.out _).trans (((cell_far (p := ⟨gb349, _, none⟩) NB356_349.out _).trans (((cell_far (p := ⟨gb349, _, none⟩) NB356_349.out _).trans (hHeld.2.2.2.1)))))))))), ((cell_far (p := ⟨gb349, _, none⟩) NB356_349.out _).trans (((cell_far (p := ⟨gb349, _, none⟩) NB356_349.out _).trans (((cell_far (p := ⟨gb349, _, none⟩) NB356_349.out _).trans (((cell_far (p := ⟨gb349, _, none⟩) NB356_349.out _).trans (((cell_far (p := ⟨gb349, _, none⟩) NB356_349.out _).trans (hHeld.2.2.2.2))))))))))⟩ (fun hHeld => ?_)
                    clear hK K
                    refine pure_ (i := 4) (N := some 10) (v := ?_) (a' := ?_) #[T,T,T,T,T] rfl rfl (z_0) (fun _ _ _ h => h) (Or.inl ⟨z_1, ?_⟩) ?_ ?_
                    rotate_left
                    · intro w'
                      go_simp
                      with_reducible rfl
                    rotate_left
                    · simp only [Act.put, List.setIfInBounds_toArray, List.set_cons_zero, List.set_cons_succ, i64_w, i32_w]
                      rfl
                    refine done_ (z_0) ?_
                    try go_wp2
                    refine bodyPost_ret (results_list (rs := [.tmp 8, .cell 9 26, .tmp 10]) rfl (z_12) (.tmp (.cell gb349 26 #[.string t350, .int .i64 t351, .int .i64 t352, .string t353, .int .i64 t354] (0, 0) _ rfl (z_128) Try.underlying26 rfl (z_0) (.tmp .nil)))) rfl ?_
                    exact ⟨_, z_13, by (with_reducible repeat (first | apply Kd.Q_alloc | apply Kd.Q_drewN | apply Kd.Q_drew)); exact Kd.Q_mono (Kd.Q_far (p := ⟨gb349, 4, none⟩) (Kd.Q_far (p := ⟨gb349, 3, none⟩) (Kd.Q_far (p := ⟨gb349, 2, none⟩) (Kd.Q_far (p := ⟨gb349, 1, none⟩) (Kd.Q_far (p := ⟨gb349, 0, none⟩) (Kd.Q_types HO370.out BK349.out (z_5)) (fun _ hk => hk.2) (.string t350)) (fun _ hk => hk.2) (.int .i64 t351)) (fun _ hk => hk.2) (.int .i64 t352)) (fun _ hk => hk.2) (.string t353)) (fun _ hk => hk.2) (.int .i64 t354)) (fun _ hk => trivial), z_107⟩
                  · rw [if_neg c50] at H
                    exact absurd H (z_12)
                · rw [if_neg c49] at H
                  have c49b0 : decide (5 < (y365.length : Int)) = false := decide_eq_false c49
                  have c49b1 : decide (5 < y365.length) = false := decide_eq_false (z_6)
                  clear c49
                  simp only [Option.some.injEq, Prod.mk.injEq] at H
                  obtain ⟨rfl, rfl, rfl, rfl, rfl, rfl, rfl⟩ := H
                  have hnb62 := NB356_349.out
                  have hnc62 := NB349_356.out
                  have hcz63_0 : wr.cell? ⟨gb356, 0, none⟩ = some (.string t350) := (blk_cell BK356.out 0).trans rfl
                  have hcz63_1 : wr.cell? ⟨gb356, 1, none⟩ = some (.int .i64 t351) := (blk_cell BK356.out 1).trans rfl
                  have hcz63_2 : wr.cell? ⟨gb356, 2, none⟩ = some (.int .i64 t352) := (blk_cell BK356.out 2).trans rfl
                  have hcz63_3 : wr.cell? ⟨gb356, 3, none⟩ = some (.string t353) := (blk_cell BK356.out 3).trans rfl
                  have hcz63_4 : wr.cell? ⟨gb356, 4, none⟩ = some (.int .i64 t354) := (blk_cell BK356.out 4).trans rfl
                  have hfz63_0 := blk_frozen BK356.out 0
                  have hfz63_1 := blk_frozen BK356.out 1
                  have hfz63_2 := blk_frozen BK356.out 2
                  have hfz63_3 := blk_frozen BK356.out 3
                  have hfz63_4 := blk_frozen BK356.out 4
                  try go_wp2_with (first | ((with_reducible refine gate_builtin (b := .append) (xs := #[.tmp 82, .tmp 89]) rfl ?_); at_builtin; refine Kd.Q_append k83 (w0 := w) w.heap.size rfl (.tmp 82) (.tmp 89) 48 83 (.agg #[(.string ⟨#[]⟩), (.int .i64 0), (.int .i64 0), (.string ⟨#[]⟩), (.int .i64 0), (.int .i64 0)]) 64 rfl Try.underlying48 info83 rfl (z_5) (z_6) u13 x13_2 (⟨(⟨t350, t351, t352, t353, t354⟩ : S26), wrap64 (a3 + t354)⟩ : S83) [.string t350, .int .i64 t351, .int .i64 t352, .string t353, .int .i64 t354, .int .i64 (wrap64 (a3 + t354))] (fun _ => True) (fun _ => False) rfl rfl ?aP (fun _ hk => hk.elim) ?aF ?aO ?aB ?aS ?aL ?_; (case aP => exact k83_mkM _ _ _ (⟨(⟨t350, t351, t352, t353, t354⟩ : S26), wrap64 (a3 + t354)⟩ : S83)); (case aB => exact z_113); (case aF => exact z_53); (case aO => exact z_127); (case aS => exact z_114); (case aL => have := LMc48.out; omega); intro v366 w64 ho hb hg hat; rw [← Ny365.out] at ho; have n0_ := Aside0.mk (blk_grown (g := gb349) (o := .cells #[.string x350000_2, .int .i64 x350001_2, .int .i64 x350002_2, .string x350003_2, .int .i64 x350004_2] 26 (0, 0)) (z_104) hg (Kd.Q_ne HO_13.out BK349.out (z_5))); have n1_ := Aside0.mk (blk_grown (g := gb356) (o := .cells #[.string t350, .int .i64 t351, .int .i64 t352, .string t353, .int .i64 t354] 26 (0, 0)) (z_111) hg (Kd.Q_ne HO_13.out BK356.out (z_5))); have n2_ := Aside0.mk (hb); have n3_ := Aside0.mk (ho); clear BK349; clear BK356; clear HB; clear HO_13; have BK349 := n0_; have BK356 := n1_; have HB := n2_; have HO367 := n3_; clear n0_ n1_ n2_ n3_; clear ho hb hg hat; obtain ⟨Ao65, co65, eo65, _⟩ := Kd.Q_slice HO367.out; subst eo65))
                  have n0_ := Aside0.mk (Kd.Q_drew HO367.out)
                  have n1_ := Aside0.mk (blk_drew BK349.out)
                  have n2_ := Aside0.mk (blk_drew BK356.out)
                  have n3_ := Aside0.mk (below_drew1 HB.out)
                  clear HO367
                  clear BK349
                  clear BK356
                  clear HB
                  have HO367 := n0_
                  have BK349 := n1_
                  have BK356 := n2_
                  have HB := n3_
                  clear n0_ n1_ n2_ n3_
                  refine start_ (n := 5) (S := fun w' => w'.cell? ⟨gb356, 0, none⟩ = some (.string t350) ∧ w'.cell? ⟨gb356, 1, none⟩ = some (.int .i64 t351) ∧ w'.cell? ⟨gb356, 2, none⟩ = some (.int .i64 t352) ∧ w'.cell? ⟨gb356, 3, none⟩ = some (.string t353) ∧ w'.cell? ⟨gb356, 4, none⟩ = some (.int .i64 t354)) (ds := []) #[F,F,F,F,F] (z_0) rfl rfl ⟨(blk_cell BK356.out 0).trans rfl, (blk_cell BK356.out 1).trans rfl, (blk_cell BK356.out 2).trans rfl, (blk_cell BK356.out 3).trans rfl, (blk_cell BK356.out 4).trans rfl⟩ (fun hHeld => ?_)
                  generalize w64.drew = w66 at HO367 BK349 BK356 HB hHeld ⊢
                  refine pure_ (i := 0) (N := some 96) (v := ?_) (a' := ?_) #[T,F,F,F,F] rfl rfl (z_0) (fun _ _ _ h => h) (Or.inl ⟨z_1, ?_⟩) ?_ ?_
                  rotate_left
                  · intro w'
                    go_simp
                    with_reducible rfl
                  rotate_left
                  · simp only [Act.put, List.setIfInBounds_toArray, List.set_cons_zero, List.set_cons_succ, i64_w, i32_w]
                    rfl
                  refine pure_ (i := 2) (N := some 8) (v := ?_) (a' := ?_) #[T,F,T,F,F] rfl rfl (z_0) (fun _ _ _ h => h) (Or.inl ⟨z_1, ?_⟩) ?_ ?_
                  rotate_left
                  · intro w'
                    go_simp
                    with_reducible rfl
                  rotate_left
                  · simp only [Act.put, List.setIfInBounds_toArray, List.set_cons_zero, List.set_cons_succ, i64_w, i32_w]
                    rfl
                  refine take_ (i := 1) (N := some 97) (v := ?_) (a' := ?_) #[T,T,T,F,F] rfl rfl (z_0) (fun _ _ _ h => h) (Or.inl ⟨z_1, ?_⟩) hHeld ?_ ?_
                  rotate_left
                  · rintro w' ⟨s0, s1, s2, s3, s4⟩
                    go_simp
                    with_reducible rfl
                  rotate_left
                  · simp only [Act.put, List.setIfInBounds_toArray, List.set_cons_zero, List.set_cons_succ, i64_w, i32_w]
                    rfl
                  refine one_ (i := 3) (N := none) #[T,T,T,T,F] rfl rfl (z_0) (z_5) (fun K hK => ?_)
                  have hs67 : w66.cell? ⟨gb349, 0, none⟩ = some (.string x350000_2) := (blk_cell BK349.out 0).trans rfl
                  have hfs67 := blk_frozen BK349.out 0
                  have hns67_1 := NB356_349.out
                  have hms67_1 := NB349_356.out
                  have hs68 : w66.cell? ⟨gb349, 1, none⟩ = some (.int .i64 x350001_2) := (blk_cell BK349.out 1).trans rfl
                  have hfs68 := blk_frozen BK349.out 1
                  have hns68_1 := NB356_349.out
                  have hms68_1 := NB349_356.out
                  have hs69 : w66.cell? ⟨gb349, 2, none⟩ = some (.int .i64 x350002_2) := (blk_cell BK349.out 2).trans rfl
                  have hfs69 := blk_frozen BK349.out 2
                  have hns69_1 := NB356_349.out
                  have hms69_1 := NB349_356.out
                  have hs70 : w66.cell? ⟨gb349, 3, none⟩ = some (.string x350003_2) := (blk_cell BK349.out 3).trans rfl
                  have hfs70 := blk_frozen BK349.out 3
                  have hns70_1 := NB356_349.out
                  have hms70_1 := NB349_356.out
                  have hs71 : w66.cell? ⟨gb349, 4, none⟩ = some (.int .i64 x350004_2) := (blk_cell BK349.out 4).trans rfl
                  have hfs71 := blk_frozen BK349.out 4
                  have hns71_1 := NB356_349.out
                  have hms71_1 := NB349_356.out
                  refine skip_ (w1 := ?_) (z_1) rfl ?_ ?_
                  rotate_left
                  · go_simp
                    rfl
                  refine hK.out _ _ ⟨((cell_far (p := ⟨gb349, _, none⟩) NB356_349.out _).trans (((cell_far (p := ⟨gb349, _, none⟩) NB356_349.out _).trans (((cell_far (p := ⟨gb349, _, none⟩) NB356_349.out _).trans (((cell_far (p := ⟨gb349, _, none⟩) NB356_349.out _).trans (((cell_far (p := ⟨gb349, _, none⟩) NB356_349.out _).trans (hHeld.1)))))))))), ((cell_far (p := ⟨gb349, _, none⟩) NB356_349.out _).trans (((cell_far (p := ⟨gb349, _, none⟩) NB356_349.out _).trans (((cell_far (p := ⟨gb349, _, none⟩) NB356_349.out _).trans (((cell_far (p := ⟨gb349, _, none⟩) NB356_349.out _).trans (((cell_far (p := ⟨gb349, _, none⟩) NB356_349.out _).trans (hHeld.2.1)))))))))), ((cell_far (p := ⟨gb349, _, none⟩) NB356_349.out _).trans (((cell_far (p := ⟨gb349, _, none⟩) NB356_349.out _).trans (((cell_far (p := ⟨gb349, _, none⟩) NB356_349.out _).trans (((cell_far (p := ⟨gb349, _, none⟩) NB356_349.out _).trans (((cell_far (p := ⟨gb349, _, none⟩) NB356_349.out _).trans (hHeld.2.2.1)))))))))), ((cell_far (p := ⟨gb349, _, none⟩) NB356_349.out _).trans (((cell_far (p := ⟨gb349, _, none⟩) NB356_349.out _).trans (((cell_far (p := ⟨gb349, _, none⟩) NB356_349.out _).trans (((cell_far (p := ⟨gb349, _, none⟩) NB356_349.out _).trans (((cell_far (p := ⟨gb349, _, none⟩) NB356_349.out _).trans (hHeld.2.2.2.1)))))))))), ((cell_far (p := ⟨gb349, _, none⟩) NB356_349.out _).trans (((cell_far (p := ⟨gb349, _, none⟩) NB356_349.out _).trans (((cell_far (p := ⟨gb349, _, none⟩) NB356_349.out _).trans (((cell_far (p := ⟨gb349, _, none⟩) NB356_349.out _).trans (((cell_far (p := ⟨gb349, _, none⟩) NB356_349.out _).trans (hHeld.2.2.2.2))))))))))⟩ (fun hHeld => ?_)
                  clear hK K
                  refine pure_ (i := 4) (N := some 10) (v := ?_) (a' := ?_) #[T,T,T,T,T] rfl rfl (z_0) (fun _ _ _ h => h) (Or.inl ⟨z_1, ?_⟩) ?_ ?_
                  rotate_left
                  · intro w'
                    go_simp
                    with_reducible rfl
                  rotate_left
                  · simp only [Act.put, List.setIfInBounds_toArray, List.set_cons_zero, List.set_cons_succ, i64_w, i32_w]
                    rfl
                  refine done_ (z_0) ?_
                  try go_wp2
                  refine bodyPost_ret (results_list (rs := [.tmp 8, .cell 9 26, .tmp 10]) rfl (z_12) (.tmp (.cell gb349 26 #[.string t350, .int .i64 t351, .int .i64 t352, .string t353, .int .i64 t354] (0, 0) _ rfl (z_128) Try.underlying26 rfl (z_0) (.tmp .nil)))) rfl ?_
                  exact ⟨_, z_13, by (with_reducible repeat (first | apply Kd.Q_alloc | apply Kd.Q_drewN | apply Kd.Q_drew)); exact Kd.Q_mono (Kd.Q_far (p := ⟨gb349, 4, none⟩) (Kd.Q_far (p := ⟨gb349, 3, none⟩) (Kd.Q_far (p := ⟨gb349, 2, none⟩) (Kd.Q_far (p := ⟨gb349, 1, none⟩) (Kd.Q_far (p := ⟨gb349, 0, none⟩) (Kd.Q_types HO367.out BK349.out (z_5)) (fun _ hk => hk.2) (.string t350)) (fun _ hk => hk.2) (.int .i64 t351)) (fun _ hk => hk.2) (.int .i64 t352)) (fun _ hk => hk.2) (.string t353)) (fun _ hk => hk.2) (.int .i64 t354)) (fun _ hk => trivial), z_107⟩
              · rw [if_neg c48] at H
                exact absurd H (z_12)

end Go.Proofs.Ytmgnmgobibpjjaa.GFnTexts
