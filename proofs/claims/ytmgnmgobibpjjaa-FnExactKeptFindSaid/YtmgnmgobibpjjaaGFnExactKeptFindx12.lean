/- What the Go functions that FnExactKeptFind reaches come to, walked step by step; there is no condition beyond those each statement names. -/
import Derived.Test.YtmgnmgobibpjjaaGFnExactKeptFindx0
import Derived.Test.YtmgnmgobibpjjaaGFnExactKeptFindx9
import Derived.Test.YtmgnmgobibpjjaaGFnExactKeptFindx11
namespace Go.Proofs.Ytmgnmgobibpjjaa.GFnExactKeptFind
open Go.RowKit Go.Proofs.YtmgnmgobibpjjaaVExactKeptFind.PrintWords Go.Proofs.YtmgnmgobibpjjaaVExactKeptFind.PrintLast Go.Proofs.YtmgnmgobibpjjaaVExactKeptFind.PrintMore
open Bool renaming true → T, false → F
attribute [local go_sem] max2_int min2_int max_two min_two max_three min_three max_four min_four   -- for this text's walks alone
set_option linter.unusedVariables false
set_option linter.unusedSimpArgs false

/-! ### spec_KeptAsk: function 45 -/
mutual
def spec_KeptAsk.j0 : Nat → List (S83) → ByteArray → Int → Bool → ByteArray → Int → Int → ByteArray → Int → Option ((List (S83)) × ByteArray × Int × Int × ByteArray × Int × Bool)
 | 0, _, _, _, _, _, _, _, _, _ => none
 | k + 1, x0, x2, x3, x32, x292000, x292001, x292002, x292003, x292004 => if x32 = true then (some ((([] : List (S83))), (⟨#[]⟩ : ByteArray), 0, 0, (⟨#[]⟩ : ByteArray), 0, false)) else (spec_KeptAsk.l0 k x0 x2 x3 (([] : List (S83))) 0 x292000 x292001 x292002 x292003 x292004)
def spec_KeptAsk.l0 : Nat → List (S83) → ByteArray → Int → List (S83) → Int → ByteArray → Int → Int → ByteArray → Int → Option ((List (S83)) × ByteArray × Int × Int × ByteArray × Int × Bool)
 | 0, _, _, _, _, _, _, _, _, _, _ => none
 | k + 1, x0, x2, x3, x13, x14, x292000, x292001, x292002, x292003, x292004 => if x14 < (x0.length : Int) then (if 0 ≤ x14 then (if ((rd_T83 x0 x14).f0.f0).toList = x2.toList then (spec_KeptAsk.j2 k x0 x2 x3 x13 x14 (decide (((rd_T83 x0 x14).f1) > x3)) x292000 x292001 x292002 x292003 x292004) else (spec_KeptAsk.j2 k x0 x2 x3 x13 x14 false x292000 x292001 x292002 x292003 x292004)) else (none)) else (if x13.length < 2199023255552 then ((some (x13 ++ [(⟨(⟨x292000, x292001, x292002, x292003, x292004⟩ : S26), wrap64 (x3 + x292004)⟩ : S83)] : List (S83))).bind fun y300 => (if (y300.length : Int) > 5 then (if 1 ≤ (y300.length : Int) then (some ((y300.drop (1 : Int).toNat), x292000, x292001, x292002, x292003, x292004, false)) else (none)) else (some (y300, x292000, x292001, x292002, x292003, x292004, false)))) else (none))
def spec_KeptAsk.j2 : Nat → List (S83) → ByteArray → Int → List (S83) → Int → Bool → ByteArray → Int → Int → ByteArray → Int → Option ((List (S83)) × ByteArray × Int × Int × ByteArray × Int × Bool)
 | 0, _, _, _, _, _, _, _, _, _, _, _ => none
 | k + 1, x0, x2, x3, x13, x14, x58, x292000, x292001, x292002, x292003, x292004 => if x58 = true then ((some (([] : List (S83)) : List (S83))).bind fun y308 => (if y308.length + x0.length < 2199023255552 then (if 0 ≤ x14 then (if x14 < (x0.length : Int) then (some ((y308 ++ x0), (rd_T83 x0 x14).f0.f0, (rd_T83 x0 x14).f0.f1, (rd_T83 x0 x14).f0.f2, (rd_T83 x0 x14).f0.f3, (rd_T83 x0 x14).f0.f4, true)) else (none)) else (none)) else (none))) else (if 0 ≤ x14 then (if x14 < (x0.length : Int) then (if ((rd_T83 x0 x14).f0.f0).toList = x2.toList then (spec_KeptAsk.l0 k x0 x2 x3 x13 (wrap64 (x14 + 1)) x292000 x292001 x292002 x292003 x292004) else (if x13.length < 2199023255552 then (spec_KeptAsk.l0 k x0 x2 x3 (x13 ++ [(⟨(⟨(rd_T83 x0 x14).f0.f0, (rd_T83 x0 x14).f0.f1, (rd_T83 x0 x14).f0.f2, (rd_T83 x0 x14).f0.f3, (rd_T83 x0 x14).f0.f4⟩ : S26), (rd_T83 x0 x14).f1⟩ : S83)]) (wrap64 (x14 + 1)) x292000 x292001 x292002 x292003 x292004) else (none))) else (none)) else (none))
end
def spec_KeptAsk.f (k : Nat) (l0 : List (S83)) (l1 : List (S26)) (a2 : ByteArray) (a3 : Int) : Option ((List (S83)) × ByteArray × Int × Int × ByteArray × Int × Bool) := (spec_NameAsk.f k l1 a2).bind fun bt285 => ((spec_KeptOk.f k l0).bind fun t292 => (if t292 = true then (if bt285.2.2.2.2.2 = true then ((spec_l1In.f a3 0 900000).bind fun t293 => (spec_KeptAsk.j0 k l0 a2 a3 (!t293) bt285.1 bt285.2.1 bt285.2.2.1 bt285.2.2.2.1 bt285.2.2.2.2.1)) else (spec_KeptAsk.j0 k l0 a2 a3 true bt285.1 bt285.2.1 bt285.2.2.1 bt285.2.2.2.1 bt285.2.2.2.2.1)) else (spec_KeptAsk.j0 k l0 a2 a3 true bt285.1 bt285.2.1 bt285.2.2.1 bt285.2.2.2.1 bt285.2.2.2.2.1)))
theorem spec_KeptAsk.mono_l : ∀ k, (∀ y0 y1 y2 y3 y4 y5 y6 y7 y8, LeO (spec_KeptAsk.j0 k y0 y1 y2 y3 y4 y5 y6 y7 y8) (spec_KeptAsk.j0 (k + 1) y0 y1 y2 y3 y4 y5 y6 y7 y8)) ∧ (∀ y0 y1 y2 y3 y4 y5 y6 y7 y8 y9, LeO (spec_KeptAsk.l0 k y0 y1 y2 y3 y4 y5 y6 y7 y8 y9) (spec_KeptAsk.l0 (k + 1) y0 y1 y2 y3 y4 y5 y6 y7 y8 y9)) ∧ (∀ y0 y1 y2 y3 y4 y5 y6 y7 y8 y9 y10, LeO (spec_KeptAsk.j2 k y0 y1 y2 y3 y4 y5 y6 y7 y8 y9 y10) (spec_KeptAsk.j2 (k + 1) y0 y1 y2 y3 y4 y5 y6 y7 y8 y9 y10))
 | 0 => ⟨fun _ _ _ _ _ _ _ _ _ r h => by simp [spec_KeptAsk.j0] at h, fun _ _ _ _ _ _ _ _ _ _ r h => by simp [spec_KeptAsk.l0] at h, fun _ _ _ _ _ _ _ _ _ _ _ r h => by simp [spec_KeptAsk.j2] at h⟩
 | k + 1 => by
  obtain ⟨ih0, ih1, ih2⟩ := spec_KeptAsk.mono_l k
  refine ⟨?_, ?_, ?_⟩
  ·intro y0 y1 y2 y3 y4 y5 y6 y7 y8
   unfold spec_KeptAsk.j0
   repeat' first
   | (with_reducible exact ih0 _ _ _ _ _ _ _ _ _)
   | (with_reducible exact ih1 _ _ _ _ _ _ _ _ _ _)
   | (with_reducible exact ih2 _ _ _ _ _ _ _ _ _ _ _)
   | (with_reducible exact spec_KeptOk.mono _ _)
   | (with_reducible exact spec_NameAsk.mono _ _ _)
   | (with_reducible exact LeO.refl _)
   | (with_reducible exact LeO.none _)
   | (with_reducible refine LeO.ite ?_ ?_)
   | (with_reducible refine LeO.bind ?_ (fun _ => ?_))
   | exact ih0 _ _ _ _ _ _ _ _ _
   | exact ih1 _ _ _ _ _ _ _ _ _ _
   | exact ih2 _ _ _ _ _ _ _ _ _ _ _
   | exact spec_KeptOk.mono _ _
   | exact spec_NameAsk.mono _ _ _
   | exact LeO.none _
   | refine LeO.ite ?_ ?_
   | refine LeO.bind ?_ (fun _ => ?_)
  ·intro y0 y1 y2 y3 y4 y5 y6 y7 y8 y9
   unfold spec_KeptAsk.l0
   repeat' first
   | (with_reducible exact ih0 _ _ _ _ _ _ _ _ _)
   | (with_reducible exact ih1 _ _ _ _ _ _ _ _ _ _)
   | (with_reducible exact ih2 _ _ _ _ _ _ _ _ _ _ _)
   | (with_reducible exact spec_KeptOk.mono _ _)
   | (with_reducible exact spec_NameAsk.mono _ _ _)
   | (with_reducible exact LeO.refl _)
   | (with_reducible exact LeO.none _)
   | (with_reducible refine LeO.ite ?_ ?_)
   | (with_reducible refine LeO.bind ?_ (fun _ => ?_))
   | exact ih0 _ _ _ _ _ _ _ _ _
   | exact ih1 _ _ _ _ _ _ _ _ _ _
   | exact ih2 _ _ _ _ _ _ _ _ _ _ _
   | exact spec_KeptOk.mono _ _
   | exact spec_NameAsk.mono _ _ _
   | exact LeO.none _
   | refine LeO.ite ?_ ?_
   | refine LeO.bind ?_ (fun _ => ?_)
  ·intro y0 y1 y2 y3 y4 y5 y6 y7 y8 y9 y10
   unfold spec_KeptAsk.j2
   repeat' first
   | (with_reducible exact ih0 _ _ _ _ _ _ _ _ _)
   | (with_reducible exact ih1 _ _ _ _ _ _ _ _ _ _)
   | (with_reducible exact ih2 _ _ _ _ _ _ _ _ _ _ _)
   | (with_reducible exact spec_KeptOk.mono _ _)
   | (with_reducible exact spec_NameAsk.mono _ _ _)
   | (with_reducible exact LeO.refl _)
   | (with_reducible exact LeO.none _)
   | (with_reducible refine LeO.ite ?_ ?_)
   | (with_reducible refine LeO.bind ?_ (fun _ => ?_))
   | exact ih0 _ _ _ _ _ _ _ _ _
   | exact ih1 _ _ _ _ _ _ _ _ _ _
   | exact ih2 _ _ _ _ _ _ _ _ _ _ _
   | exact spec_KeptOk.mono _ _
   | exact spec_NameAsk.mono _ _ _
   | exact LeO.none _
   | refine LeO.ite ?_ ?_
   | refine LeO.bind ?_ (fun _ => ?_)
theorem spec_KeptAsk.mono : ∀ a0 a1 a2 a3 k, LeO (spec_KeptAsk.f k a0 a1 a2 a3) (spec_KeptAsk.f (k + 1) a0 a1 a2 a3) := by
 intro a0 a1 a2 a3 k
 obtain ⟨ih0, ih1, ih2⟩ := spec_KeptAsk.mono_l k
 unfold spec_KeptAsk.f
 repeat' first
   | (with_reducible exact ih0 _ _ _ _ _ _ _ _ _)
   | (with_reducible exact ih1 _ _ _ _ _ _ _ _ _ _)
   | (with_reducible exact ih2 _ _ _ _ _ _ _ _ _ _ _)
   | (with_reducible exact spec_KeptOk.mono _ _)
   | (with_reducible exact spec_NameAsk.mono _ _ _)
   | (with_reducible exact LeO.refl _)
   | (with_reducible exact LeO.none _)
   | (with_reducible refine LeO.ite ?_ ?_)
   | (with_reducible refine LeO.bind ?_ (fun _ => ?_))
   | exact ih0 _ _ _ _ _ _ _ _ _
   | exact ih1 _ _ _ _ _ _ _ _ _ _
   | exact ih2 _ _ _ _ _ _ _ _ _ _ _
   | exact spec_KeptOk.mono _ _
   | exact spec_NameAsk.mono _ _ _
   | exact LeO.none _
   | refine LeO.ite ?_ ?_
   | refine LeO.bind ?_ (fun _ => ?_)
def spec_KeptAsk.T9 : Bool × List (List Nat × List Nat) := (true, [([], []), ([], []), ([0, 1], [0, 1]), ([], []), ([], []), ([3, 4], [3, 4]), ([5], [5]), ([6], [6]), ([2, 2, 0, 1, 2], [2]), ([7, 8, 0, 1, 2, 3, 4, 5, 6, 7, 8], [7]), ([9, 0, 1, 2, 3, 4, 5, 6, 7, 8, 9], [])])
def spec_KeptAsk.B9 : List Nat := [0, 0, 3, 0, 0, 24, 56, 120, 7, 511, 1023]
theorem spec_KeptAsk.tab9 : rtab .any (opsOf Try.f45 9) = spec_KeptAsk.T9 := z_0
theorem spec_KeptAsk.bits9 : waitsOk spec_KeptAsk.T9.2 spec_KeptAsk.B9 = true := z_0
set_option maxHeartbeats 8000000 in
set_option maxRecDepth 100000 in
theorem spec_KeptAsk.calls (k : Nat) (A0 : Option Addr) (c0 : Nat) (l0 : List (S83)) (A1 : Option Addr) (c1 : Nat) (l1 : List (S26)) (a2 : ByteArray) (a3 : Int) (r1 : List (S83)) (r2 : ByteArray) (r3 : Int) (r4 : Int) (r5 : ByteArray) (r6 : Int) (r7 : Bool) (w : World) (hr0 : Kd.C k83 w A0 l0.length l0) (hc0 : l0.length ≤ c0) (hr1 : Kd.C k26 w A1 l1.length l1) (hc1 : l1.length ≤ c1) (h : spec_KeptAsk.f k l0 l1 a2 a3 = some (r1, r2, r3, r4, r5, r6, r7)) :
  Calls Try.prog 45 #[.slice A0 l0.length c0, .slice A1 l1.length c1, .string a2, .int .i64 a3] w fun e w' => ∃ v0_ : Value, e = .returned (.tuple #[v0_, .agg #[.string r2, .int .i64 r3, .int .i64 r4, .string r5, .int .i64 r6], .bool r7]) ∧ Kd.Q k83 83 w' w.heap.size (fun _ => True) v0_ r1 ∧ Below w.heap.size w w' := by
 have hu26 := Try.underlying26
 have hu83 := Try.underlying83
 have HR0 := Aside0.mk hr0
 have HC0 := Aside0.mk hc0
 clear hr0 hc0
 have HR1 := Aside0.mk hr1
 have HC1 := Aside0.mk hc1
 clear hr1 hc1
 have HB := Aside0.mk (Below.refl w.heap.size w)
 have H : ((spec_NameAsk.f k l1 a2).bind fun bt285 => ((spec_KeptOk.f k l0).bind fun t292 => (if t292 = true then (if bt285.2.2.2.2.2 = true then ((spec_l1In.f a3 0 900000).bind fun t293 => (spec_KeptAsk.j0 k l0 a2 a3 (!t293) bt285.1 bt285.2.1 bt285.2.2.1 bt285.2.2.2.1 bt285.2.2.2.2.1)) else (spec_KeptAsk.j0 k l0 a2 a3 true bt285.1 bt285.2.1 bt285.2.2.1 bt285.2.2.2.1 bt285.2.2.2.2.1)) else (spec_KeptAsk.j0 k l0 a2 a3 true bt285.1 bt285.2.1 bt285.2.2.1 bt285.2.2.2.1 bt285.2.2.2.2.1)))) = some (r1, r2, r3, r4, r5, r6, r7) := h
 clear h
 replace H := Option.bind_eq_some_iff.mp H
 obtain ⟨⟨t285, t286, t287, t288, t289, t290⟩, A50, H⟩ := H
 replace H : ((spec_KeptOk.f k l0).bind fun t292 => (if t292 = true then (if t290 = true then ((spec_l1In.f a3 0 900000).bind fun t293 => (spec_KeptAsk.j0 k l0 a2 a3 (!t293) t285 t286 t287 t288 t289)) else (spec_KeptAsk.j0 k l0 a2 a3 true t285 t286 t287 t288 t289)) else (spec_KeptAsk.j0 k l0 a2 a3 true t285 t286 t287 t288 t289))) = some (r1, r2, r3, r4, r5, r6, r7) := H
 have A5 := Aside0.mk A50
 clear A50
 have HC6 := Aside0.mk H
 clear H
 go_enter Try.func45, Try.ntmps45
 go_upto_region 2 with (first | ((with_reducible refine gate_dst (N := 9) rfl ?_); refine box_event ?hg (N := 9) ?hd (cs := #[.string (⟨#[]⟩ : ByteArray), .int .i64 0, .int .i64 0, .string (⟨#[]⟩ : ByteArray), .int .i64 0]) (t := 26) ?hr ?_; (case hd => rfl); (case hg => rfl); (case hr => exact z_1); intro gb284 hg w7 hbox hb; have n0_ := Aside0.mk (below_step (z_2) hb); have n1_ := Aside0.mk (hbox); have n2_ := Aside0.mk ((z_3 : w.heap.size ≤ gb284)); have n3_ := Aside0.mk ((z_3 : w.heap.size ≤ gb284)); clear HB; have HB := n0_; have BK284 := n1_; have GW284 := n2_; have GE284 := n3_; clear n0_ n1_ n2_ n3_; clear hb hbox hg) | ((with_reducible refine gate_callee (f := 30) rfl ?_); refine goesL_ (some 18) rfl rfl Try.func30 (z_0) rfl #[.slice A1 l1.length c1, .string a2] rfl (z_8) ?_; (with_reducible refine (spec_NameAsk.calls k _ _ l1 a2 t285 t286 t287 t288 t289 t290 _ ?side1 ?side2 A5.out).mono ?_); (case side1 => exact z_61); (case side2 => exact HC1.out); rintro e w8 ⟨rfl, hb⟩; refine ⟨_, rfl, ?_⟩; have n0_ := Aside0.mk (blk_below (g := gb284) (o := .cells #[.string (⟨#[]⟩ : ByteArray), .int .i64 0, .int .i64 0, .string (⟨#[]⟩ : ByteArray), .int .i64 0] 26 (0, 0)) (z_106) hb); have n1_ := Aside0.mk (below_step (z_107) hb); clear BK284; clear HB; have BK284 := n0_; have HB := n1_; clear n0_ n1_; (try clear hb); (try clear hb2); (try clear hk); (try clear hi)) | ((with_reducible refine gate_dst (N := 11) rfl ?_); refine box_event ?hg (N := 11) ?hd (cs := #[.string (⟨#[]⟩ : ByteArray), .int .i64 0, .int .i64 0, .string (⟨#[]⟩ : ByteArray), .int .i64 0]) (t := 26) ?hr ?_; (case hd => rfl); (case hg => rfl); (case hr => exact z_1); intro gb291 hg w9 hbox hb; have n0_ := Aside0.mk (blk_below (g := gb284) (o := .cells #[.string (⟨#[]⟩ : ByteArray), .int .i64 0, .int .i64 0, .string (⟨#[]⟩ : ByteArray), .int .i64 0] 26 (0, 0)) (z_106) hb); have n1_ := Aside0.mk (below_step (z_107) hb); have n2_ := Aside0.mk (hbox); have n3_ := Aside0.mk ((z_108 : w.heap.size ≤ gb291)); have n4_ := Aside0.mk ((z_108 : w.heap.size ≤ gb291)); have n5_ := Aside0.mk ((by rw [hg]; exact Nat.ne_of_lt (blk_lt (g := gb284) (o := .cells #[.string (⟨#[]⟩ : ByteArray), .int .i64 0, .int .i64 0, .string (⟨#[]⟩ : ByteArray), .int .i64 0] 26 (0, 0)) (z_106)) : gb284 ≠ gb291)); have n6_ := Aside0.mk ((by rw [hg]; exact Nat.ne_of_gt (blk_lt (g := gb284) (o := .cells #[.string (⟨#[]⟩ : ByteArray), .int .i64 0, .int .i64 0, .string (⟨#[]⟩ : ByteArray), .int .i64 0] 26 (0, 0)) (z_106)) : gb291 ≠ gb284)); clear BK284; clear HB; have BK284 := n0_; have HB := n1_; have BK291 := n2_; have GW291 := n3_; have GE291 := n4_; have NB284_291 := n5_; have NB291_284 := n6_; clear n0_ n1_ n2_ n3_ n4_ n5_ n6_; clear hb hbox hg; have hnb10 := NB291_284.out; have hnc10 := NB284_291.out; have hcz11_0 : w9.cell? ⟨gb291, 0, none⟩ = some (.string (⟨#[]⟩ : ByteArray)) := (blk_cell BK291.out 0).trans rfl; have hcz11_1 : w9.cell? ⟨gb291, 1, none⟩ = some (.int .i64 0) := (blk_cell BK291.out 1).trans rfl; have hcz11_2 : w9.cell? ⟨gb291, 2, none⟩ = some (.int .i64 0) := (blk_cell BK291.out 2).trans rfl; have hcz11_3 : w9.cell? ⟨gb291, 3, none⟩ = some (.string (⟨#[]⟩ : ByteArray)) := (blk_cell BK291.out 3).trans rfl; have hcz11_4 : w9.cell? ⟨gb291, 4, none⟩ = some (.int .i64 0) := (blk_cell BK291.out 4).trans rfl; have hfz11_0 := blk_frozen BK291.out 0; have hfz11_1 := blk_frozen BK291.out 1; have hfz11_2 := blk_frozen BK291.out 2; have hfz11_3 := blk_frozen BK291.out 3; have hfz11_4 := blk_frozen BK291.out 4))
 (try simp only [Act.put, List.setIfInBounds_toArray, List.set_cons_zero, List.set_cons_succ])
 go_cut [32] (fun v32 wc => ∃ (kq : Nat) (x32_5 : Bool), v32 = .bool x32_5 ∧ Aside0 (spec_KeptAsk.j0 kq l0 a2 a3 x32_5 t285 t286 t287 t288 t289 = some (r1, r2, r3, r4, r5, r6, r7)) ∧ Aside0 (kq ≤ k) ∧ Aside0 (wc.heap[gb284]? = some (.cells #[.string (⟨#[]⟩ : ByteArray), .int .i64 0, .int .i64 0, .string (⟨#[]⟩ : ByteArray), .int .i64 0] 26 (0, 0))) ∧ Aside0 (wc.heap[gb291]? = some (.cells #[.string t285, .int .i64 t286, .int .i64 t287, .string t288, .int .i64 t289] 26 (0, 0))) ∧ Aside0 (Below w.heap.size w wc))
 case first =>
  have H := HC6.out
  clear HC6
  replace H := Option.bind_eq_some_iff.mp H
  obtain ⟨t292, A120, H⟩ := H
  have A12 := Aside0.mk A120
  clear A120
  by_cases c13 : t292 = true
  ·subst c13
   rw [if_pos rfl] at H
   by_cases c14 : t290 = true
   ·subst c14
    rw [if_pos rfl] at H
    replace H := Option.bind_eq_some_iff.mp H
    obtain ⟨t293, A150, H⟩ := H
    have A15 := Aside0.mk A150
    clear A150
    have H' := Aside0.mk H
    clear H
    go_wp2_with (first | ((with_reducible refine gate_callee (f := 34) rfl ?_); refine goesL_ (some 22) rfl rfl Try.func34 (z_0) rfl #[.slice A0 l0.length c0] rfl (z_8) ?_; (with_reducible refine (spec_KeptOk.calls k _ _ l0 true _ ?side1 ?side2 A12.out).mono ?_); (case side1 => exact z_110); (case side2 => exact HC0.out); rintro e w16 ⟨rfl, hb⟩; refine ⟨_, rfl, ?_⟩; have n0_ := Aside0.mk (blk_below (g := gb284) (o := .cells #[.string (⟨#[]⟩ : ByteArray), .int .i64 0, .int .i64 0, .string (⟨#[]⟩ : ByteArray), .int .i64 0] 26 (0, 0)) (z_111) hb); have n1_ := Aside0.mk (blk_below (g := gb291) (o := .cells #[.string t285, .int .i64 t286, .int .i64 t287, .string t288, .int .i64 t289] 26 (0, 0)) (z_112) hb); have n2_ := Aside0.mk (below_step (z_109) hb); clear BK284; clear BK291; clear HB; have BK284 := n0_; have BK291 := n1_; have HB := n2_; clear n0_ n1_ n2_; (try clear hb); (try clear hb2); (try clear hk); (try clear hi)) | (go_at_call 55; (with_reducible refine (spec_l1In.calls a3 0 900000 t293 _ A15.out).mono ?_); rintro e w' ⟨rfl, ⟨nd, rfl⟩⟩))
    go_meet
    case rel => exact ⟨_, (!t293), (z_6), H', ⟨z_52⟩, ⟨z_106⟩, ⟨z_113⟩, ⟨z_109⟩⟩
   ·replace c14 := Bool.eq_false_iff.mpr c14
    subst c14
    rw [if_neg (show ¬ (false = true) by decide)] at H
    have H' := Aside0.mk H
    clear H
    go_wp2_with (first | ((with_reducible refine gate_callee (f := 34) rfl ?_); refine goesL_ (some 22) rfl rfl Try.func34 (z_0) rfl #[.slice A0 l0.length c0] rfl (z_8) ?_; (with_reducible refine (spec_KeptOk.calls k _ _ l0 true _ ?side1 ?side2 A12.out).mono ?_); (case side1 => exact z_110); (case side2 => exact HC0.out); rintro e w17 ⟨rfl, hb⟩; refine ⟨_, rfl, ?_⟩; have n0_ := Aside0.mk (blk_below (g := gb284) (o := .cells #[.string (⟨#[]⟩ : ByteArray), .int .i64 0, .int .i64 0, .string (⟨#[]⟩ : ByteArray), .int .i64 0] 26 (0, 0)) (z_111) hb); have n1_ := Aside0.mk (blk_below (g := gb291) (o := .cells #[.string t285, .int .i64 t286, .int .i64 t287, .string t288, .int .i64 t289] 26 (0, 0)) (z_112) hb); have n2_ := Aside0.mk (below_step (z_109) hb); clear BK284; clear BK291; clear HB; have BK284 := n0_; have BK291 := n1_; have HB := n2_; clear n0_ n1_ n2_; (try clear hb); (try clear hb2); (try clear hk); (try clear hi)))
    go_meet
    case rel => exact ⟨_, (true), (z_6), H', ⟨z_52⟩, ⟨z_106⟩, ⟨z_113⟩, ⟨z_109⟩⟩
  ·replace c13 := Bool.eq_false_iff.mpr c13
   subst c13
   rw [if_neg (show ¬ (false = true) by decide)] at H
   have H' := Aside0.mk H
   clear H
   go_wp2_with (first | ((with_reducible refine gate_callee (f := 34) rfl ?_); refine goesL_ (some 22) rfl rfl Try.func34 (z_0) rfl #[.slice A0 l0.length c0] rfl (z_8) ?_; (with_reducible refine (spec_KeptOk.calls k _ _ l0 false _ ?side1 ?side2 A12.out).mono ?_); (case side1 => exact z_110); (case side2 => exact HC0.out); rintro e w18 ⟨rfl, hb⟩; refine ⟨_, rfl, ?_⟩; have n0_ := Aside0.mk (blk_below (g := gb284) (o := .cells #[.string (⟨#[]⟩ : ByteArray), .int .i64 0, .int .i64 0, .string (⟨#[]⟩ : ByteArray), .int .i64 0] 26 (0, 0)) (z_111) hb); have n1_ := Aside0.mk (blk_below (g := gb291) (o := .cells #[.string t285, .int .i64 t286, .int .i64 t287, .string t288, .int .i64 t289] 26 (0, 0)) (z_112) hb); have n2_ := Aside0.mk (below_step (z_109) hb); clear BK284; clear BK291; clear HB; have BK284 := n0_; have BK291 := n1_; have HB := n2_; clear n0_ n1_ n2_; (try clear hb); (try clear hb2); (try clear hk); (try clear hi)))
   go_meet
   case rel => exact ⟨_, (true), (z_6), H', ⟨z_52⟩, ⟨z_106⟩, ⟨z_113⟩, ⟨z_109⟩⟩
 case rest =>
  clear HC6
  try clear c1
  try clear p2
  try clear c3
  try clear c4
  try clear c10
  try clear c13
  try clear c14
  try clear hcz11_0
  try clear hcz11_1
  try clear hcz11_2
  try clear hcz11_3
  try clear hcz11_4
  try clear hfz11_0
  try clear hfz11_1
  try clear hfz11_2
  try clear hfz11_3
  try clear hfz11_4
  obtain ⟨kq, x32_5, rfl, HA, HJ5, BK284, BK291, HB⟩ := hcut
  cases kq with
  | zero => exact absurd HA.out (by simp [spec_KeptAsk.j0])
  | succ kj5 =>
   have H := HA.out
   clear HA
   simp only [spec_KeptAsk.j0] at H
   by_cases c19 : x32_5 = true
   ·subst c19
    rw [if_pos rfl] at H
    obtain ⟨y294, hy294⟩ : ∃ y_ : List (S83), y_ = (([] : List (S83))) := ⟨_, rfl⟩
    replace H : (some (y294, (⟨#[]⟩ : ByteArray), 0, 0, (⟨#[]⟩ : ByteArray), 0, false)) = some (r1, r2, r3, r4, r5, r6, r7) := by first | (rw [hy294]; with_reducible exact H) | (have H2_ := (Option.bind_some _ _).symm.trans H; rw [hy294]; with_reducible exact H2_) | (have H2_ := (Option.bind_some _ _).symm.trans H; with_reducible exact H2_) | with_reducible exact H | (rw [hy294]; exact H) | exact H
    have Ny294 := Aside0.mk hy294
    clear hy294
    simp only [Option.some.injEq, Prod.mk.injEq] at H
    obtain ⟨rfl, rfl, rfl, rfl, rfl, rfl, rfl⟩ := H
    go_wp2_with (first | ((with_reducible refine gate_dst (N := 33) rfl ?_); refine Kd.R_lit k83 _ 83 ?hg (N := 33) ?hd (xs := ([] : List (S83))) (inner := []) (ok := fun _ => True) (okp := fun _ => True) ?hr ?hp (fun _ hk => hk) trivial (Below.refl _ _) (Nat.le_refl _) (z_10) ?_; (case hd => rfl); (case hg => rfl); (case hr => exact z_1); (case hp => exact (Reps.none _ _)); intro v295 w20 ho21 hb hg_ hnew_; clear hg_ hnew_; (first | rw [← Ny294.out] at ho21 | (simp only [Int.reduceToNat] at ho21; rw [← Ny294.out] at ho21)); have n0_ := Aside0.mk (Kd.R_lower ho21 (below_size (z_109))); have n1_ := Aside0.mk (blk_below (g := gb284) (o := .cells #[.string (⟨#[]⟩ : ByteArray), .int .i64 0, .int .i64 0, .string (⟨#[]⟩ : ByteArray), .int .i64 0] 26 (0, 0)) (z_106) hb); have n2_ := Aside0.mk (blk_below (g := gb291) (o := .cells #[.string t285, .int .i64 t286, .int .i64 t287, .string t288, .int .i64 t289] 26 (0, 0)) (z_113) hb); have n3_ := Aside0.mk (below_step (z_109) hb); clear BK284; clear BK291; clear HB; have HO296 := n0_; have BK284 := n1_; have BK291 := n2_; have HB := n3_; clear n0_ n1_ n2_ n3_; clear hb ho21; have hnb22 := NB284_291.out; have hnc22 := NB291_284.out; have hcz23_0 : w20.cell? ⟨gb284, 0, none⟩ = some (.string (⟨#[]⟩ : ByteArray)) := (blk_cell BK284.out 0).trans rfl; have hcz23_1 : w20.cell? ⟨gb284, 1, none⟩ = some (.int .i64 0) := (blk_cell BK284.out 1).trans rfl; have hcz23_2 : w20.cell? ⟨gb284, 2, none⟩ = some (.int .i64 0) := (blk_cell BK284.out 2).trans rfl; have hcz23_3 : w20.cell? ⟨gb284, 3, none⟩ = some (.string (⟨#[]⟩ : ByteArray)) := (blk_cell BK284.out 3).trans rfl; have hcz23_4 : w20.cell? ⟨gb284, 4, none⟩ = some (.int .i64 0) := (blk_cell BK284.out 4).trans rfl; have hfz23_0 := blk_frozen BK284.out 0; have hfz23_1 := blk_frozen BK284.out 1; have hfz23_2 := blk_frozen BK284.out 2; have hfz23_3 := blk_frozen BK284.out 3; have hfz23_4 := blk_frozen BK284.out 4))
    refine bodyPost_ret (results_list (rs := [.tmp 8, .cell 9 26, .tmp 10]) rfl (z_10) (.tmp (.cell gb284 26 #[.string (⟨#[]⟩ : ByteArray), .int .i64 0, .int .i64 0, .string (⟨#[]⟩ : ByteArray), .int .i64 0] (0, 0) _ rfl (by (with_reducible repeat (first | refine blk_drewN ?_ _ | refine blk_drew ?_ | refine blk_alloc ?_ _)); refine blk_put (cs := #[.string (⟨#[]⟩ : ByteArray), .int .i64 0, .int .i64 0, .string (⟨#[]⟩ : ByteArray), .int .i64 0]) ?_ 4 _ rfl; (with_reducible repeat (first | refine blk_drewN ?_ _ | refine blk_drew ?_ | refine blk_alloc ?_ _)); refine blk_put (cs := #[.string (⟨#[]⟩ : ByteArray), .int .i64 0, .int .i64 0, .string (⟨#[]⟩ : ByteArray), .int .i64 0]) ?_ 3 _ rfl; (with_reducible repeat (first | refine blk_drewN ?_ _ | refine blk_drew ?_ | refine blk_alloc ?_ _)); refine blk_put (cs := #[.string (⟨#[]⟩ : ByteArray), .int .i64 0, .int .i64 0, .string (⟨#[]⟩ : ByteArray), .int .i64 0]) ?_ 2 _ rfl; (with_reducible repeat (first | refine blk_drewN ?_ _ | refine blk_drew ?_ | refine blk_alloc ?_ _)); refine blk_put (cs := #[.string (⟨#[]⟩ : ByteArray), .int .i64 0, .int .i64 0, .string (⟨#[]⟩ : ByteArray), .int .i64 0]) ?_ 1 _ rfl; (with_reducible repeat (first | refine blk_drewN ?_ _ | refine blk_drew ?_ | refine blk_alloc ?_ _)); refine blk_put (cs := #[.string (⟨#[]⟩ : ByteArray), .int .i64 0, .int .i64 0, .string (⟨#[]⟩ : ByteArray), .int .i64 0]) ?_ 0 _ rfl; (with_reducible repeat (first | refine blk_drewN ?_ _ | refine blk_drew ?_ | refine blk_alloc ?_ _)); exact BK284.out) Try.underlying26 rfl (z_0) (.tmp .nil)))) rfl ?_
    exact ⟨_, z_4, Kd.Q_of_R (by (with_reducible repeat (first | apply Kd.R_alloc | apply Kd.R_drewN | apply Kd.R_drew)); exact Kd.R_mono (Kd.R_far (p := ⟨gb284, 4, none⟩) (Kd.R_far (p := ⟨gb284, 3, none⟩) (Kd.R_far (p := ⟨gb284, 2, none⟩) (Kd.R_far (p := ⟨gb284, 1, none⟩) (Kd.R_far (p := ⟨gb284, 0, none⟩) (Kd.R_types HO296.out BK284.out (z_19)) (fun _ hk => hk.2) (.string (⟨#[]⟩ : ByteArray))) (fun _ hk => hk.2) (.int .i64 0)) (fun _ hk => hk.2) (.int .i64 0)) (fun _ hk => hk.2) (.string (⟨#[]⟩ : ByteArray))) (fun _ hk => hk.2) (.int .i64 0)) (fun _ hk => trivial)), z_109⟩
   ·replace c19 := Bool.eq_false_iff.mpr c19
    subst c19
    rw [if_neg (show ¬ (false = true) by decide)] at H
    obtain ⟨y297, hy297⟩ : ∃ y_ : List (S83), y_ = (([] : List (S83))) := ⟨_, rfl⟩
    replace H : (spec_KeptAsk.l0 kj5 l0 a2 a3 y297 0 t285 t286 t287 t288 t289) = some (r1, r2, r3, r4, r5, r6, r7) := by first | (rw [hy297]; with_reducible exact H) | (have H2_ := (Option.bind_some _ _).symm.trans H; rw [hy297]; with_reducible exact H2_) | (have H2_ := (Option.bind_some _ _).symm.trans H; with_reducible exact H2_) | with_reducible exact H | (rw [hy297]; exact H) | exact H
    have Ny297 := Aside0.mk hy297
    clear hy297
    have H' := Aside0.mk H
    clear H
    go_wp2_with (first | ((with_reducible refine gate_dst (N := 35) rfl ?_); refine Kd.R_lit k83 _ 83 ?hg (N := 35) ?hd (xs := ([] : List (S83))) (inner := []) (ok := fun _ => True) (okp := fun _ => True) ?hr ?hp (fun _ hk => hk) trivial (Below.refl _ _) (Nat.le_refl _) (z_10) ?_; (case hd => rfl); (case hg => rfl); (case hr => exact z_1); (case hp => exact (Reps.none _ _)); intro v298 w24 ho25 hb hg_ hnew_; clear hg_ hnew_; (first | rw [← Ny297.out] at ho25 | (simp only [Int.reduceToNat] at ho25; rw [← Ny297.out] at ho25)); have n0_ := Aside0.mk (Kd.R_lower ho25 (below_size (z_109))); have n1_ := Aside0.mk (blk_below (g := gb284) (o := .cells #[.string (⟨#[]⟩ : ByteArray), .int .i64 0, .int .i64 0, .string (⟨#[]⟩ : ByteArray), .int .i64 0] 26 (0, 0)) (z_106) hb); have n2_ := Aside0.mk (blk_below (g := gb291) (o := .cells #[.string t285, .int .i64 t286, .int .i64 t287, .string t288, .int .i64 t289] 26 (0, 0)) (z_113) hb); have n3_ := Aside0.mk (below_step (z_109) hb); clear BK284; clear BK291; clear HB; have HO299 := n0_; have BK284 := n1_; have BK291 := n2_; have HB := n3_; clear n0_ n1_ n2_ n3_; clear hb ho25))
    go_loopg [13, 14] kj5 (fun kq v13 v14 w' => ∃ (x13_2 : List (S83)) (x14_2 : Int) (x285000_2 : ByteArray) (x285001_2 : Int) (x285002_2 : Int) (x285003_2 : ByteArray) (x285004_2 : Int), v14 = .int .i64 x14_2 ∧ Aside0 (spec_KeptAsk.l0 kq l0 a2 a3 x13_2 x14_2 t285 t286 t287 t288 t289 = some (r1, r2, r3, r4, r5, r6, r7)) ∧ Aside0 (kq ≤ kj5) ∧ Aside0 (Kd.Q k83 83 w' w.heap.size (fun _ => True) v13 x13_2) ∧ Aside0 (w'.heap[gb284]? = some (.cells #[.string x285000_2, .int .i64 x285001_2, .int .i64 x285002_2, .string x285003_2, .int .i64 x285004_2] 26 (0, 0))) ∧ Aside0 (w'.heap[gb291]? = some (.cells #[.string t285, .int .i64 t286, .int .i64 t287, .string t288, .int .i64 t289] 26 (0, 0))) ∧ Aside0 (Below w.heap.size w w'))
    case atStart => exact ⟨(y297), (0), ((⟨#[]⟩ : ByteArray)), (0), (0), ((⟨#[]⟩ : ByteArray)), (0), (z_6), H', ⟨Nat.le_refl _⟩, ⟨Kd.Q_of_R (by (with_reducible repeat (first | apply Kd.R_alloc | apply Kd.R_drewN | apply Kd.R_drew)); exact HO299.out)⟩, ⟨z_106⟩, ⟨z_113⟩, ⟨z_109⟩⟩
    case round =>
     clear H'
     try clear c1
     try clear c2
     try clear p2
     try clear c3
     try clear c4
     try clear c10
     try clear c13
     try clear c14
     try clear c19
     try clear c22
     try clear hcz11_0
     try clear hcz11_1
     try clear hcz11_2
     try clear hcz11_3
     try clear hcz11_4
     try clear hcz23_0
     try clear hcz23_1
     try clear hcz23_2
     try clear hcz23_3
     try clear hcz23_4
     try clear hfz11_0
     try clear hfz11_1
     try clear hfz11_2
     try clear hfz11_3
     try clear hfz11_4
     try clear hfz23_0
     try clear hfz23_1
     try clear hfz23_2
     try clear hfz23_3
     try clear hfz23_4
     try clear p2
     obtain ⟨x13_2, x14_2, x285000_2, x285001_2, x285002_2, x285003_2, x285004_2, rfl, HA, HK2, HO_13, BK284, BK291, HB⟩ := hrel
     cases gk with
     | zero => exact absurd HA.out (by simp [spec_KeptAsk.l0])
     | succ k2 =>
      have H := HA.out
      clear HA
      simp only [spec_KeptAsk.l0] at H
      by_cases c26 : x14_2 < (l0.length : Int)
      ·rw [if_pos c26] at H
       have c26b0 : decide (x14_2 < (l0.length : Int)) = true := decide_eq_true c26
       clear c26
       have HC27 := Aside0.mk H
       clear H
       go_upto_region 8 with (fail)
       go_cut [58] (fun v58 wc => ∃ (kq : Nat) (x58_26 : Bool), v58 = .bool x58_26 ∧ Aside0 (spec_KeptAsk.j2 kq l0 a2 a3 x13_2 x14_2 x58_26 t285 t286 t287 t288 t289 = some (r1, r2, r3, r4, r5, r6, r7)) ∧ Aside0 (kq ≤ k2) ∧ Aside0 (Kd.Q k83 83 wc w.heap.size (fun _ => True) u13 x13_2) ∧ Aside0 (wc.heap[gb284]? = some (.cells #[.string x285000_2, .int .i64 x285001_2, .int .i64 x285002_2, .string x285003_2, .int .i64 x285004_2] 26 (0, 0))) ∧ Aside0 (wc.heap[gb291]? = some (.cells #[.string t285, .int .i64 t286, .int .i64 t287, .string t288, .int .i64 t289] 26 (0, 0))) ∧ Aside0 (Below w.heap.size w wc))
       case first =>
        have H := HC27.out
        clear HC27
        by_cases c28 : 0 ≤ x14_2
        ·rw [if_pos c28] at H
         have c28b0 : decide (0 ≤ x14_2) = true := decide_eq_true c28
         clear c28
         (first | rw [c28b0] | (simp only [i64_w, i32_w]; rw [c28b0]) | skip)
         by_cases c29 : ((rd_T83 l0 x14_2).f0.f0).toList = a2.toList
         ·rw [if_pos c29] at H
          have c29b0 : (((rd_T83 l0 x14_2).f0.f0).toList == a2.toList) = true := beq_iff_eq.mpr c29
          have c29b1 : (((rd_T83 l0 x14_2).f0.f0).toList != a2.toList) = false := bne_eq_false_iff_eq.mpr c29
          clear c29
          have H' := Aside0.mk H
          clear H
          have p306 : 0 ≤ (x14_2 : Int) := of_decide_eq_true (z_7)
          have q306 : x14_2 < (l0.length : Int) := of_decide_eq_true (z_7)
          obtain ⟨ad306, e306, hx306_0, hx306_1, hx306_2, hx306_3, hx306_4, hx306_5⟩ := at_T83 HR0.out x14_2 p306 q306
          cases e306
          replace hx306_0 := pw_cell_below HB.out hx306_0
          replace hx306_1 := pw_cell_below HB.out hx306_1
          replace hx306_2 := pw_cell_below HB.out hx306_2
          replace hx306_3 := pw_cell_below HB.out hx306_3
          replace hx306_4 := pw_cell_below HB.out hx306_4
          replace hx306_5 := pw_cell_below HB.out hx306_5
          replace p306 := eq_true p306
          replace q306 := eq_true q306
          have p307 : 0 ≤ (x14_2 : Int) := of_decide_eq_true (z_7)
          have q307 : x14_2 < (l0.length : Int) := of_decide_eq_true (z_7)
          obtain ⟨ad307, e307, hx307_0, hx307_1, hx307_2, hx307_3, hx307_4, hx307_5⟩ := at_T83 HR0.out x14_2 p307 q307
          obtain rfl : ad306 = ad307 := (by injection e307)
          replace hx307_0 := pw_cell_below HB.out hx307_0
          replace hx307_1 := pw_cell_below HB.out hx307_1
          replace hx307_2 := pw_cell_below HB.out hx307_2
          replace hx307_3 := pw_cell_below HB.out hx307_3
          replace hx307_4 := pw_cell_below HB.out hx307_4
          replace hx307_5 := pw_cell_below HB.out hx307_5
          replace p307 := eq_true p307
          replace q307 := eq_true q307
          go_wp2
          go_meet
          case rel => exact ⟨_, (decide (((rd_T83 l0 x14_2).f1) > a3)), (z_6), H', ⟨by have := HJ5.out; have := HK2.out; first | omega | exact Nat.le_refl _⟩, ⟨z_114⟩, ⟨z_106⟩, ⟨z_113⟩, ⟨z_109⟩⟩
         ·rw [if_neg c29] at H
          have c29b0 : (((rd_T83 l0 x14_2).f0.f0).toList == a2.toList) = false := beq_eq_false_iff_ne.mpr c29
          have c29b1 : (((rd_T83 l0 x14_2).f0.f0).toList != a2.toList) = true := bne_iff_ne.mpr c29
          have H' := Aside0.mk H
          clear H
          have p306 : 0 ≤ (x14_2 : Int) := of_decide_eq_true (z_7)
          have q306 : x14_2 < (l0.length : Int) := of_decide_eq_true (z_7)
          obtain ⟨ad306, e306, hx306_0, hx306_1, hx306_2, hx306_3, hx306_4, hx306_5⟩ := at_T83 HR0.out x14_2 p306 q306
          cases e306
          replace hx306_0 := pw_cell_below HB.out hx306_0
          replace hx306_1 := pw_cell_below HB.out hx306_1
          replace hx306_2 := pw_cell_below HB.out hx306_2
          replace hx306_3 := pw_cell_below HB.out hx306_3
          replace hx306_4 := pw_cell_below HB.out hx306_4
          replace hx306_5 := pw_cell_below HB.out hx306_5
          replace p306 := eq_true p306
          replace q306 := eq_true q306
          go_wp2
          go_meet
          case rel => exact ⟨_, (false), (z_6), H', ⟨by have := HJ5.out; have := HK2.out; first | omega | exact Nat.le_refl _⟩, ⟨z_114⟩, ⟨z_106⟩, ⟨z_113⟩, ⟨z_109⟩⟩
        ·rw [if_neg c28] at H
         exact absurd H (z_10)
       case rest =>
        clear HC27
        try clear c1
        try clear c2
        try clear p2
        try clear c3
        try clear p3
        try clear q3
        try clear hx3
        try clear c4
        try clear c10
        try clear c13
        try clear c14
        try clear c19
        try clear c22
        try clear c26
        try clear c26b0
        try clear c28
        try clear c28b0
        try clear c29
        try clear c29b0
        try clear c29b1
        try clear hcz11_0
        try clear hcz11_1
        try clear hcz11_2
        try clear hcz11_3
        try clear hcz11_4
        try clear hcz23_0
        try clear hcz23_1
        try clear hcz23_2
        try clear hcz23_3
        try clear hcz23_4
        try clear hfz11_0
        try clear hfz11_1
        try clear hfz11_2
        try clear hfz11_3
        try clear hfz11_4
        try clear hfz23_0
        try clear hfz23_1
        try clear hfz23_2
        try clear hfz23_3
        try clear hfz23_4
        try clear hx306_0
        try clear hx306_1
        try clear hx306_2
        try clear hx306_3
        try clear hx306_4
        try clear hx306_5
        try clear hx307_0
        try clear hx307_1
        try clear hx307_2
        try clear hx307_3
        try clear hx307_4
        try clear hx307_5
        try clear p2
        try clear p306
        try clear p307
        try clear q306
        try clear q307
        obtain ⟨kq, x58_26, rfl, HA, HJ26, HO_13, BK284, BK291, HB⟩ := hcut
        cases kq with
        | zero => exact absurd HA.out (by simp [spec_KeptAsk.j2])
        | succ kj26 =>
         have H := HA.out
         clear HA
         simp only [spec_KeptAsk.j2] at H
         by_cases c30 : x58_26 = true
         ·subst c30
          rw [if_pos rfl] at H
          obtain ⟨y308, hy308⟩ : ∃ y_ : List (S83), y_ = (([] : List (S83))) := ⟨_, rfl⟩
          replace H : (if y308.length + l0.length < 2199023255552 then (if 0 ≤ x14_2 then (if x14_2 < (l0.length : Int) then (some ((y308 ++ l0), (rd_T83 l0 x14_2).f0.f0, (rd_T83 l0 x14_2).f0.f1, (rd_T83 l0 x14_2).f0.f2, (rd_T83 l0 x14_2).f0.f3, (rd_T83 l0 x14_2).f0.f4, true)) else (none)) else (none)) else (none)) = some (r1, r2, r3, r4, r5, r6, r7) := by first | (rw [hy308]; with_reducible exact H) | (have H2_ := (Option.bind_some _ _).symm.trans H; rw [hy308]; with_reducible exact H2_) | (have H2_ := (Option.bind_some _ _).symm.trans H; with_reducible exact H2_) | with_reducible exact H | (rw [hy308]; exact H) | exact H
          have Ny308 := Aside0.mk hy308
          clear hy308
          by_cases c31 : y308.length + l0.length < 2199023255552
          ·rw [if_pos c31] at H
           have LMc31 := Aside0.mk c31
           clear c31
           obtain ⟨y311, hy311⟩ : ∃ y_ : List (S83), y_ = (y308 ++ l0) := ⟨_, rfl⟩
           replace H : (if 0 ≤ x14_2 then (if x14_2 < (l0.length : Int) then (some (y311, (rd_T83 l0 x14_2).f0.f0, (rd_T83 l0 x14_2).f0.f1, (rd_T83 l0 x14_2).f0.f2, (rd_T83 l0 x14_2).f0.f3, (rd_T83 l0 x14_2).f0.f4, true)) else (none)) else (none)) = some (r1, r2, r3, r4, r5, r6, r7) := by first | (rw [hy311]; with_reducible exact H) | (have H2_ := (Option.bind_some _ _).symm.trans H; rw [hy311]; with_reducible exact H2_) | (have H2_ := (Option.bind_some _ _).symm.trans H; with_reducible exact H2_) | with_reducible exact H | (rw [hy311]; exact H) | exact H
           have Ny311 := Aside0.mk hy311
           clear hy311
           by_cases c32 : 0 ≤ x14_2
           ·rw [if_pos c32] at H
            have c32b0 : decide (0 ≤ x14_2) = true := decide_eq_true c32
            clear c32
            by_cases c33 : x14_2 < (l0.length : Int)
            ·rw [if_pos c33] at H
             have c33b0 : decide (x14_2 < (l0.length : Int)) = true := decide_eq_true c33
             clear c33
             simp only [Option.some.injEq, Prod.mk.injEq] at H
             obtain ⟨rfl, rfl, rfl, rfl, rfl, rfl, rfl⟩ := H
             try go_wp2
             have n0_ := Aside0.mk (Kd.Q_drew HO_13.out)
             have n1_ := Aside0.mk (blk_drew BK284.out)
             have n2_ := Aside0.mk (blk_drew BK291.out)
             have n3_ := Aside0.mk (below_drew1 HB.out)
             clear HO_13
             clear BK284
             clear BK291
             clear HB
             have HO_13 := n0_
             have BK284 := n1_
             have BK291 := n2_
             have HB := n3_
             clear n0_ n1_ n2_ n3_
             have p314 : 0 ≤ (x14_2 : Int) := of_decide_eq_true (z_7)
             have q314 : x14_2 < (l0.length : Int) := of_decide_eq_true (z_7)
             obtain ⟨ad314, e314, hx314_0, hx314_1, hx314_2, hx314_3, hx314_4, hx314_5⟩ := at_T83 HR0.out x14_2 p314 q314
             have hw314_5 := hx314_5
             have hw314_4 := hx314_4
             have hw314_3 := hx314_3
             have hw314_2 := hx314_2
             have hw314_1 := hx314_1
             have hw314_0 := hx314_0
             cases e314
             replace hx314_0 := pw_cell_below HB.out hx314_0
             replace hx314_1 := pw_cell_below HB.out hx314_1
             replace hx314_2 := pw_cell_below HB.out hx314_2
             replace hx314_3 := pw_cell_below HB.out hx314_3
             replace hx314_4 := pw_cell_below HB.out hx314_4
             replace hx314_5 := pw_cell_below HB.out hx314_5
             replace p314 := eq_true p314
             replace q314 := eq_true q314
             refine start_ (n := 11) (S := fun w' => w'.cell? (ad314.add ((x14_2).toNat * 6)) = some (.string ((rd_T83 l0 x14_2).f0.f0)) ∧ w'.cell? ⟨(ad314.add ((x14_2).toNat * 6)).block, (ad314.add ((x14_2).toNat * 6)).off + 1, none⟩ = some (.int .i64 ((rd_T83 l0 x14_2).f0.f1)) ∧ w'.cell? ⟨(ad314.add ((x14_2).toNat * 6)).block, (ad314.add ((x14_2).toNat * 6)).off + 2, none⟩ = some (.int .i64 ((rd_T83 l0 x14_2).f0.f2)) ∧ w'.cell? ⟨(ad314.add ((x14_2).toNat * 6)).block, (ad314.add ((x14_2).toNat * 6)).off + 3, none⟩ = some (.string ((rd_T83 l0 x14_2).f0.f3)) ∧ w'.cell? ⟨(ad314.add ((x14_2).toNat * 6)).block, (ad314.add ((x14_2).toNat * 6)).off + 4, none⟩ = some (.int .i64 ((rd_T83 l0 x14_2).f0.f4)) ∧ w'.cell? ⟨(ad314.add ((x14_2).toNat * 6)).block, (ad314.add ((x14_2).toNat * 6)).off + 5, none⟩ = some (.int .i64 ((rd_T83 l0 x14_2).f1))) (ds := []) #[F,F,F,F,F,F,F,F,F,F,F] (z_0) rfl rfl ⟨(pw_cell_below HB.out hw314_0), (pw_cell_below HB.out hw314_1), (pw_cell_below HB.out hw314_2), (pw_cell_below HB.out hw314_3), (pw_cell_below HB.out hw314_4), (pw_cell_below HB.out hw314_5)⟩ (fun hHeld => ?_); refine with_tabW spec_KeptAsk.tab9 spec_KeptAsk.bits9 (fun HT_ HW_ => ?_)
             generalize wc.drew = w34 at HO_13 BK284 BK291 HB hx314_0 hx314_1 hx314_2 hx314_3 hx314_4 hx314_5 hHeld ⊢
             refine pure_ (i := 1) (N := some 60) (v := ?_) (a' := ?_) #[F,T,F,F,F,F,F,F,F,F,F] rfl rfl (any_of HT_.out (z_0)) (fun _ _ _ h => h) (Or.inl ⟨z_30, ?_⟩) ?_ ?_
             rotate_left
             ·intro w'
              go_simp
              with_reducible rfl
             rotate_left
             ·simp only [Act.put, List.setIfInBounds_toArray, List.set_cons_zero, List.set_cons_succ, i64_w, i32_w]
              rfl
             refine pure_ (i := 3) (N := some 62) (v := ?_) (a' := ?_) #[F,T,F,T,F,F,F,F,F,F,F] rfl rfl (any_of HT_.out (z_0)) (fun _ _ _ h => h) (Or.inl ⟨z_30, ?_⟩) ?_ ?_
             rotate_left
             ·intro w'
              go_simp
              with_reducible rfl
             rotate_left
             ·simp only [Act.put, List.setIfInBounds_toArray, List.set_cons_zero, List.set_cons_succ, i64_w, i32_w]
              rfl
             refine pure_ (i := 4) (N := some 63) (v := ?_) (a' := ?_) #[F,T,F,T,T,F,F,F,F,F,F] rfl rfl (any_of HT_.out (z_0)) (fun _ _ _ h => h) (Or.inl ⟨z_30, ?_⟩) ?_ ?_
             rotate_left
             ·intro w'
              go_simp
              with_reducible rfl
             rotate_left
             ·simp only [Act.put, List.setIfInBounds_toArray, List.set_cons_zero, List.set_cons_succ, i64_w, i32_w]
              rfl
             refine pure_ (i := 5) (N := some 64) (v := ?_) (a' := ?_) #[F,T,F,T,T,T,F,F,F,F,F] rfl rfl (any_of HT_.out (z_0)) (fun _ _ _ h => h) (Or.inl ⟨z_30, ?_⟩) ?_ ?_
             rotate_left
             ·intro w'
              go_simp
              with_reducible rfl
             rotate_left
             ·simp only [Act.put, List.setIfInBounds_toArray, List.set_cons_zero, List.set_cons_succ, i64_w, i32_w]
              rfl
             refine pure_ (i := 6) (N := some 65) (v := ?_) (a' := ?_) #[F,T,F,T,T,T,T,F,F,F,F] rfl rfl (any_of HT_.out (z_0)) (fun _ _ _ h => h) (Or.inl ⟨z_30, ?_⟩) ?_ ?_
             rotate_left
             ·intro w'
              go_simp
              with_reducible rfl
             rotate_left
             ·simp only [Act.put, List.setIfInBounds_toArray, List.set_cons_zero, List.set_cons_succ, i64_w, i32_w]
              rfl
             refine take_ (i := 7) (N := some 66) (v := ?_) (a' := ?_) #[F,T,F,T,T,T,T,T,F,F,F] rfl rfl (take_ofW HT_.out HW_.out (z_0)) (fun _ _ _ h => h) (Or.inl ⟨z_30, ?_⟩) hHeld ?_ ?_
             rotate_left
             ·rintro w' ⟨s0, s1, s2, s3, s4, s5⟩
              go_simp
              with_reducible rfl
             rotate_left
             ·simp only [Act.put, List.setIfInBounds_toArray, List.set_cons_zero, List.set_cons_succ, i64_w, i32_w]
              rfl
             refine one_ (i := 0) (N := some 59) #[T,T,F,T,T,T,T,T,F,F,F] rfl rfl (one_of HT_.out (z_0)) (z_19) (fun K hK => ?_)
             refine Kd.R_lit_step k83 _ 83 ?hg (N := 59) ?hd (xs := ([] : List (S83))) (inner := []) (ok := fun _ => True) (okp := fun _ => True) ?hr ?hp (fun _ hk => hk) trivial (Below.refl _ _) (Nat.le_refl _) (z_10) ?_; (case hd => rfl); (case hg => rfl); (case hr => exact z_1); (case hp => exact (Reps.none _ _))
             intro v309 w35 ho36 hb hg_ hnew_
             clear hg_ hnew_
             (first | rw [← Ny308.out] at ho36 | (simp only [Int.reduceToNat] at ho36; rw [← Ny308.out] at ho36))
             have n0_ := Aside0.mk (Kd.Q_elder' (z_114) (Kd.R_base ho36) hb)
             have n1_ := Aside0.mk (Kd.R_lower (Kd.R_new' ho36 (Kd.Q_lt (z_114))) (below_size (z_109)))
             have n2_ := Aside0.mk (blk_below (g := gb284) (o := .cells #[.string x285000_2, .int .i64 x285001_2, .int .i64 x285002_2, .string x285003_2, .int .i64 x285004_2] 26 (0, 0)) (z_106) hb)
             have n3_ := Aside0.mk (blk_below (g := gb291) (o := .cells #[.string t285, .int .i64 t286, .int .i64 t287, .string t288, .int .i64 t289] 26 (0, 0)) (z_113) hb)
             have n4_ := Aside0.mk (below_step (z_109) hb)
             clear HO_13
             clear BK284
             clear BK291
             clear HB
             have HO_13 := n0_
             have HO310 := n1_
             have BK284 := n2_
             have BK291 := n3_
             have HB := n4_
             clear n0_ n1_ n2_ n3_ n4_
             clear hb ho36
             refine hK.out _ _ ⟨(pw_cell_below HB.out hw314_0), (pw_cell_below HB.out hw314_1), (pw_cell_below HB.out hw314_2), (pw_cell_below HB.out hw314_3), (pw_cell_below HB.out hw314_4), (pw_cell_below HB.out hw314_5)⟩ (fun hHeld => ?_)
             clear hK K
             refine norm_ (a' := ?_) ?_ ?_
             rotate_left
             ·show Act.put _ (some 59) _ = _
              simp only [Act.put, List.setIfInBounds_toArray, List.set_cons_zero, List.set_cons_succ, i64_w, i32_w]
              rfl
             refine one_ (i := 2) (N := some 61) #[T,T,T,T,T,T,T,T,F,F,F] rfl rfl (one_of HT_.out (z_0)) (z_19) (fun K hK => ?_)
             refine Kd.R_append_rows_step k83 (w0 := w) w.heap.size (z_30) (.tmp 59) (.tmp 60) 48 83 (.agg #[(.string ⟨#[]⟩), (.int .i64 0), (.int .i64 0), (.string ⟨#[]⟩), (.int .i64 0), (.int .i64 0)]) 64 rfl Try.underlying48 info83 rfl (z_19) (z_20) v309 y308 l0 _ _ _ (fun k_ => some k_ ≠ (u13 : Value).ownBlock) (fun _ => False) rfl rfl ?aO ?aR (fun _ _ h => h) (fun _ h => h.elim) ?aF ?aB ?aS ?aL ?_
             (case aR => exact z_62)
             (case aB => exact z_115)
             (case aF => exact (fun k_ hk => Kd.fresh' (Kd.Q_lt (z_114)) k_ hk))
             (case aO => exact (by (with_reducible repeat (first | apply Kd.R_alloc | apply Kd.R_drewN | apply Kd.R_drew)); exact Kd.R_mono HO310.out (fun _ hk => hk.2)))
             (case aS => exact z_116)
             (case aL => have := LMc31.out; omega)
             intro v312 w37 ho hb hg hat
             rw [← Ny311.out] at ho
             have n0_ := Aside0.mk (Kd.Q_after (ok := (fun _ => True)) (z_114) hg hat)
             have n1_ := Aside0.mk (blk_grown (g := gb284) (o := .cells #[.string x285000_2, .int .i64 x285001_2, .int .i64 x285002_2, .string x285003_2, .int .i64 x285004_2] 26 (0, 0)) (z_106) hg (Kd.R_ne HO310.out BK284.out (z_19)))
             have n2_ := Aside0.mk (blk_grown (g := gb291) (o := .cells #[.string t285, .int .i64 t286, .int .i64 t287, .string t288, .int .i64 t289] 26 (0, 0)) (z_113) hg (Kd.R_ne HO310.out BK291.out (z_19)))
             have n3_ := Aside0.mk (hb)
             have n4_ := Aside0.mk (ho)
             clear HO_13
             clear BK284
             clear BK291
             clear HB
             clear HO310
             have HO_13 := n0_
             have BK284 := n1_
             have BK291 := n2_
             have HB := n3_
             have HO313 := n4_
             clear n0_ n1_ n2_ n3_ n4_
             clear ho hb hg hat
             refine hK.out _ _ ⟨(pw_cell_below HB.out hw314_0), (pw_cell_below HB.out hw314_1), (pw_cell_below HB.out hw314_2), (pw_cell_below HB.out hw314_3), (pw_cell_below HB.out hw314_4), (pw_cell_below HB.out hw314_5)⟩ (fun hHeld => ?_)
             clear hK K
             refine norm_ (a' := ?_) ?_ ?_
             rotate_left
             ·show Act.put _ (some 61) _ = _
              simp only [Act.put, List.setIfInBounds_toArray, List.set_cons_zero, List.set_cons_succ, i64_w, i32_w]
              rfl
             refine pure_ (i := 8) (N := some 8) (v := ?_) (a' := ?_) #[T,T,T,T,T,T,T,T,T,F,F] rfl rfl (any_of HT_.out (z_0)) (fun _ _ _ h => h) (Or.inl ⟨z_30, ?_⟩) ?_ ?_
             rotate_left
             ·intro w'
              go_simp
              with_reducible rfl
             rotate_left
             ·simp only [Act.put, List.setIfInBounds_toArray, List.set_cons_zero, List.set_cons_succ, i64_w, i32_w]
              rfl
             refine one_ (i := 9) (N := none) #[T,T,T,T,T,T,T,T,T,T,F] rfl rfl (one_of HT_.out (z_0)) (z_19) (fun K hK => ?_)
             have hs38 : w37.cell? ⟨gb284, 0, none⟩ = some (.string x285000_2) := (blk_cell BK284.out 0).trans rfl
             have hfs38 := blk_frozen BK284.out 0
             have hns38_1 := NB291_284.out
             have hms38_1 := NB284_291.out
             have hs39 : w37.cell? ⟨gb284, 1, none⟩ = some (.int .i64 x285001_2) := (blk_cell BK284.out 1).trans rfl
             have hfs39 := blk_frozen BK284.out 1
             have hns39_1 := NB291_284.out
             have hms39_1 := NB284_291.out
             have hs40 : w37.cell? ⟨gb284, 2, none⟩ = some (.int .i64 x285002_2) := (blk_cell BK284.out 2).trans rfl
             have hfs40 := blk_frozen BK284.out 2
             have hns40_1 := NB291_284.out
             have hms40_1 := NB284_291.out
             have hs41 : w37.cell? ⟨gb284, 3, none⟩ = some (.string x285003_2) := (blk_cell BK284.out 3).trans rfl
             have hfs41 := blk_frozen BK284.out 3
             have hns41_1 := NB291_284.out
             have hms41_1 := NB284_291.out
             have hs42 : w37.cell? ⟨gb284, 4, none⟩ = some (.int .i64 x285004_2) := (blk_cell BK284.out 4).trans rfl
             have hfs42 := blk_frozen BK284.out 4
             have hns42_1 := NB291_284.out
             have hms42_1 := NB284_291.out
             refine skip_ (w1 := ?_) (z_30) rfl ?_ ?_
             rotate_left
             ·go_simp
              rfl
             refine hK.out _ _ ⟨((cell_far (p := ⟨gb284, _, none⟩) (z_118) _).trans (((cell_far (p := ⟨gb284, _, none⟩) (z_118) _).trans (((cell_far (p := ⟨gb284, _, none⟩) (z_118) _).trans (((cell_far (p := ⟨gb284, _, none⟩) (z_118) _).trans (((cell_far (p := ⟨gb284, _, none⟩) (z_118) _).trans (hHeld.1)))))))))), ((cell_far (p := ⟨gb284, _, none⟩) (z_120) _).trans (((cell_far (p := ⟨gb284, _, none⟩) (z_120) _).trans (((cell_far (p := ⟨gb284, _, none⟩) (z_120) _).trans (((cell_far (p := ⟨gb284, _, none⟩) (z_120) _).trans (((cell_far (p := ⟨gb284, _, none⟩) (z_120) _).trans (hHeld.2.1)))))))))), ((cell_far (p := ⟨gb284, _, none⟩) (z_122) _).trans (((cell_far (p := ⟨gb284, _, none⟩) (z_122) _).trans (((cell_far (p := ⟨gb284, _, none⟩) (z_122) _).trans (((cell_far (p := ⟨gb284, _, none⟩) (z_122) _).trans (((cell_far (p := ⟨gb284, _, none⟩) (z_122) _).trans (hHeld.2.2.1)))))))))), ((cell_far (p := ⟨gb284, _, none⟩) (z_124) _).trans (((cell_far (p := ⟨gb284, _, none⟩) (z_124) _).trans (((cell_far (p := ⟨gb284, _, none⟩) (z_124) _).trans (((cell_far (p := ⟨gb284, _, none⟩) (z_124) _).trans (((cell_far (p := ⟨gb284, _, none⟩) (z_124) _).trans (hHeld.2.2.2.1)))))))))), ((cell_far (p := ⟨gb284, _, none⟩) (z_126) _).trans (((cell_far (p := ⟨gb284, _, none⟩) (z_126) _).trans (((cell_far (p := ⟨gb284, _, none⟩) (z_126) _).trans (((cell_far (p := ⟨gb284, _, none⟩) (z_126) _).trans (((cell_far (p := ⟨gb284, _, none⟩) (z_126) _).trans (hHeld.2.2.2.2.1)))))))))), ((cell_far (p := ⟨gb284, _, none⟩) (z_128) _).trans (((cell_far (p := ⟨gb284, _, none⟩) (z_128) _).trans (((cell_far (p := ⟨gb284, _, none⟩) (z_128) _).trans (((cell_far (p := ⟨gb284, _, none⟩) (z_128) _).trans (((cell_far (p := ⟨gb284, _, none⟩) (z_128) _).trans (hHeld.2.2.2.2.2))))))))))⟩ (fun hHeld => ?_)
             clear hK K
             refine pure_ (i := 10) (N := some 10) (v := ?_) (a' := ?_) #[T,T,T,T,T,T,T,T,T,T,T] rfl rfl (any_of HT_.out (z_0)) (fun _ _ _ h => h) (Or.inl ⟨z_30, ?_⟩) ?_ ?_
             rotate_left
             ·intro w'
              go_simp
              with_reducible rfl
             rotate_left
             ·simp only [Act.put, List.setIfInBounds_toArray, List.set_cons_zero, List.set_cons_succ, i64_w, i32_w]
              rfl
             refine done_ (done_of HT_.out (z_0)) ?_
             try go_wp2
             refine bodyPost_ret (results_list (rs := [.tmp 8, .cell 9 26, .tmp 10]) rfl (z_10) (.tmp (.cell gb284 26 #[.string ((rd_T83 l0 x14_2).f0.f0), .int .i64 ((rd_T83 l0 x14_2).f0.f1), .int .i64 ((rd_T83 l0 x14_2).f0.f2), .string ((rd_T83 l0 x14_2).f0.f3), .int .i64 ((rd_T83 l0 x14_2).f0.f4)] (0, 0) _ rfl (by (with_reducible repeat (first | refine blk_drewN ?_ _ | refine blk_drew ?_ | refine blk_alloc ?_ _)); refine blk_put (cs := #[.string ((rd_T83 l0 x14_2).f0.f0), .int .i64 ((rd_T83 l0 x14_2).f0.f1), .int .i64 ((rd_T83 l0 x14_2).f0.f2), .string ((rd_T83 l0 x14_2).f0.f3), .int .i64 x285004_2]) ?_ 4 _ rfl; (with_reducible repeat (first | refine blk_drewN ?_ _ | refine blk_drew ?_ | refine blk_alloc ?_ _)); refine blk_put (cs := #[.string ((rd_T83 l0 x14_2).f0.f0), .int .i64 ((rd_T83 l0 x14_2).f0.f1), .int .i64 ((rd_T83 l0 x14_2).f0.f2), .string x285003_2, .int .i64 x285004_2]) ?_ 3 _ rfl; (with_reducible repeat (first | refine blk_drewN ?_ _ | refine blk_drew ?_ | refine blk_alloc ?_ _)); refine blk_put (cs := #[.string ((rd_T83 l0 x14_2).f0.f0), .int .i64 ((rd_T83 l0 x14_2).f0.f1), .int .i64 x285002_2, .string x285003_2, .int .i64 x285004_2]) ?_ 2 _ rfl; (with_reducible repeat (first | refine blk_drewN ?_ _ | refine blk_drew ?_ | refine blk_alloc ?_ _)); refine blk_put (cs := #[.string ((rd_T83 l0 x14_2).f0.f0), .int .i64 x285001_2, .int .i64 x285002_2, .string x285003_2, .int .i64 x285004_2]) ?_ 1 _ rfl; (with_reducible repeat (first | refine blk_drewN ?_ _ | refine blk_drew ?_ | refine blk_alloc ?_ _)); refine blk_put (cs := #[.string x285000_2, .int .i64 x285001_2, .int .i64 x285002_2, .string x285003_2, .int .i64 x285004_2]) ?_ 0 _ rfl; (with_reducible repeat (first | refine blk_drewN ?_ _ | refine blk_drew ?_ | refine blk_alloc ?_ _)); exact BK284.out) Try.underlying26 rfl (z_0) (.tmp .nil)))) rfl ?_
             exact ⟨_, z_4, Kd.Q_of_R (by (with_reducible repeat (first | apply Kd.R_alloc | apply Kd.R_drewN | apply Kd.R_drew)); exact Kd.R_mono (Kd.R_far (p := ⟨gb284, 4, none⟩) (Kd.R_far (p := ⟨gb284, 3, none⟩) (Kd.R_far (p := ⟨gb284, 2, none⟩) (Kd.R_far (p := ⟨gb284, 1, none⟩) (Kd.R_far (p := ⟨gb284, 0, none⟩) (Kd.R_types HO313.out BK284.out (z_19)) (fun _ hk => hk.2) (.string ((rd_T83 l0 x14_2).f0.f0))) (fun _ hk => hk.2) (.int .i64 ((rd_T83 l0 x14_2).f0.f1))) (fun _ hk => hk.2) (.int .i64 ((rd_T83 l0 x14_2).f0.f2))) (fun _ hk => hk.2) (.string ((rd_T83 l0 x14_2).f0.f3))) (fun _ hk => hk.2) (.int .i64 ((rd_T83 l0 x14_2).f0.f4))) (fun _ hk => trivial)), z_109⟩
            ·rw [if_neg c33] at H
             exact absurd H (z_10)
           ·rw [if_neg c32] at H
            exact absurd H (z_10)
          ·rw [if_neg c31] at H
           exact absurd H (z_10)
         ·replace c30 := Bool.eq_false_iff.mpr c30
          subst c30
          rw [if_neg (show ¬ (false = true) by decide)] at H
          by_cases c43 : 0 ≤ x14_2
          ·rw [if_pos c43] at H
           have c43b0 : decide (0 ≤ x14_2) = true := decide_eq_true c43
           clear c43
           by_cases c44 : x14_2 < (l0.length : Int)
           ·rw [if_pos c44] at H
            have c44b0 : decide (x14_2 < (l0.length : Int)) = true := decide_eq_true c44
            clear c44
            by_cases c45 : ((rd_T83 l0 x14_2).f0.f0).toList = a2.toList
            ·rw [if_pos c45] at H
             have c45b0 : (((rd_T83 l0 x14_2).f0.f0).toList == a2.toList) = true := beq_iff_eq.mpr c45
             have c45b1 : (((rd_T83 l0 x14_2).f0.f0).toList != a2.toList) = false := bne_eq_false_iff_eq.mpr c45
             clear c45
             have H' := Aside0.mk H
             clear H
             have p315 : 0 ≤ (x14_2 : Int) := of_decide_eq_true (z_7)
             have q315 : x14_2 < (l0.length : Int) := of_decide_eq_true (z_7)
             obtain ⟨ad315, e315, hx315_0, hx315_1, hx315_2, hx315_3, hx315_4, hx315_5⟩ := at_T83 HR0.out x14_2 p315 q315
             cases e315
             replace hx315_0 := pw_cell_below HB.out hx315_0
             replace hx315_1 := pw_cell_below HB.out hx315_1
             replace hx315_2 := pw_cell_below HB.out hx315_2
             replace hx315_3 := pw_cell_below HB.out hx315_3
             replace hx315_4 := pw_cell_below HB.out hx315_4
             replace hx315_5 := pw_cell_below HB.out hx315_5
             replace p315 := eq_true p315
             replace q315 := eq_true q315
             go_wp2
             go_roundg kj26
             case measure => have := HJ5.out; have := HK2.out; have := HJ26.out; omega
             case rel => exact ⟨(x13_2), (wrap64 (x14_2 + 1)), (x285000_2), (x285001_2), (x285002_2), (x285003_2), (x285004_2), (z_6), H', ⟨by have := HJ5.out; have := HK2.out; have := HJ26.out; omega⟩, ⟨z_114⟩, ⟨z_106⟩, ⟨z_113⟩, ⟨z_109⟩⟩
            ·rw [if_neg c45] at H
             have c45b0 : (((rd_T83 l0 x14_2).f0.f0).toList == a2.toList) = false := beq_eq_false_iff_ne.mpr c45
             have c45b1 : (((rd_T83 l0 x14_2).f0.f0).toList != a2.toList) = true := bne_iff_ne.mpr c45
             by_cases c46 : x13_2.length < 2199023255552
             ·rw [if_pos c46] at H
              have LMc46 := Aside0.mk c46
              clear c46
              obtain ⟨y317, hy317⟩ : ∃ y_ : List (S83), y_ = (x13_2 ++ [(⟨(⟨(rd_T83 l0 x14_2).f0.f0, (rd_T83 l0 x14_2).f0.f1, (rd_T83 l0 x14_2).f0.f2, (rd_T83 l0 x14_2).f0.f3, (rd_T83 l0 x14_2).f0.f4⟩ : S26), (rd_T83 l0 x14_2).f1⟩ : S83)]) := ⟨_, rfl⟩
              replace H : (spec_KeptAsk.l0 kj26 l0 a2 a3 y317 (wrap64 (x14_2 + 1)) t285 t286 t287 t288 t289) = some (r1, r2, r3, r4, r5, r6, r7) := by first | (rw [hy317]; with_reducible exact H) | (have H2_ := (Option.bind_some _ _).symm.trans H; rw [hy317]; with_reducible exact H2_) | (have H2_ := (Option.bind_some _ _).symm.trans H; with_reducible exact H2_) | with_reducible exact H | (rw [hy317]; exact H) | exact H
              have Ny317 := Aside0.mk hy317
              clear hy317
              have H' := Aside0.mk H
              clear H
              have p315 : 0 ≤ (x14_2 : Int) := of_decide_eq_true (z_7)
              have q315 : x14_2 < (l0.length : Int) := of_decide_eq_true (z_7)
              obtain ⟨ad315, e315, hx315_0, hx315_1, hx315_2, hx315_3, hx315_4, hx315_5⟩ := at_T83 HR0.out x14_2 p315 q315
              cases e315
              replace hx315_0 := pw_cell_below HB.out hx315_0
              replace hx315_1 := pw_cell_below HB.out hx315_1
              replace hx315_2 := pw_cell_below HB.out hx315_2
              replace hx315_3 := pw_cell_below HB.out hx315_3
              replace hx315_4 := pw_cell_below HB.out hx315_4
              replace hx315_5 := pw_cell_below HB.out hx315_5
              replace p315 := eq_true p315
              replace q315 := eq_true q315
              have p316 : 0 ≤ (x14_2 : Int) := of_decide_eq_true (z_7)
              have q316 : x14_2 < (l0.length : Int) := of_decide_eq_true (z_7)
              obtain ⟨ad316, e316, hx316_0, hx316_1, hx316_2, hx316_3, hx316_4, hx316_5⟩ := at_T83 HR0.out x14_2 p316 q316
              obtain rfl : ad315 = ad316 := (by injection e316)
              replace hx316_0 := pw_cell_below HB.out hx316_0
              replace hx316_1 := pw_cell_below HB.out hx316_1
              replace hx316_2 := pw_cell_below HB.out hx316_2
              replace hx316_3 := pw_cell_below HB.out hx316_3
              replace hx316_4 := pw_cell_below HB.out hx316_4
              replace hx316_5 := pw_cell_below HB.out hx316_5
              replace p316 := eq_true p316
              replace q316 := eq_true q316
              go_wp2_with (first | ((with_reducible refine gate_builtin (b := .append) (xs := #[.tmp 75, .tmp 80]) rfl ?_); at_builtin; refine Kd.Q_append k83 (w0 := w) w.heap.size rfl (.tmp 75) (.tmp 80) 48 83 (.agg #[(.string ⟨#[]⟩), (.int .i64 0), (.int .i64 0), (.string ⟨#[]⟩), (.int .i64 0), (.int .i64 0)]) 64 rfl Try.underlying48 info83 rfl (z_19) (z_20) u13 x13_2 (⟨(⟨(rd_T83 l0 x14_2).f0.f0, (rd_T83 l0 x14_2).f0.f1, (rd_T83 l0 x14_2).f0.f2, (rd_T83 l0 x14_2).f0.f3, (rd_T83 l0 x14_2).f0.f4⟩ : S26), (rd_T83 l0 x14_2).f1⟩ : S83) [.string ((rd_T83 l0 x14_2).f0.f0), .int .i64 ((rd_T83 l0 x14_2).f0.f1), .int .i64 ((rd_T83 l0 x14_2).f0.f2), .string ((rd_T83 l0 x14_2).f0.f3), .int .i64 ((rd_T83 l0 x14_2).f0.f4), .int .i64 ((rd_T83 l0 x14_2).f1)] (fun _ => True) (fun _ => False) rfl rfl ?aP (fun _ hk => hk.elim) ?aF ?aO ?aB ?aS ?aL ?_; (case aP => exact k83_mkM _ _ _ (⟨(⟨(rd_T83 l0 x14_2).f0.f0, (rd_T83 l0 x14_2).f0.f1, (rd_T83 l0 x14_2).f0.f2, (rd_T83 l0 x14_2).f0.f3, (rd_T83 l0 x14_2).f0.f4⟩ : S26), (rd_T83 l0 x14_2).f1⟩ : S83)); (case aB => exact z_115); (case aF => exact (fun _ _ => trivial)); (case aO => exact z_129); (case aS => exact z_116); (case aL => have := LMc46.out; omega); intro v318 w47 ho hb hg hat; rw [← Ny317.out] at ho; have n0_ := Aside0.mk (blk_grown (g := gb284) (o := .cells #[.string x285000_2, .int .i64 x285001_2, .int .i64 x285002_2, .string x285003_2, .int .i64 x285004_2] 26 (0, 0)) (z_106) hg (Kd.Q_ne HO_13.out BK284.out (z_19))); have n1_ := Aside0.mk (blk_grown (g := gb291) (o := .cells #[.string t285, .int .i64 t286, .int .i64 t287, .string t288, .int .i64 t289] 26 (0, 0)) (z_113) hg (Kd.Q_ne HO_13.out BK291.out (z_19))); have n2_ := Aside0.mk (hb); have n3_ := Aside0.mk (ho); clear BK284; clear BK291; clear HB; clear HO_13; have BK284 := n0_; have BK291 := n1_; have HB := n2_; have HO319 := n3_; clear n0_ n1_ n2_ n3_; clear ho hb hg hat))
              go_roundg kj26
              case measure => have := HJ5.out; have := HK2.out; have := HJ26.out; omega
              case rel => exact ⟨(y317), (wrap64 (x14_2 + 1)), (x285000_2), (x285001_2), (x285002_2), (x285003_2), (x285004_2), (z_6), H', ⟨by have := HJ5.out; have := HK2.out; have := HJ26.out; omega⟩, ⟨by (with_reducible repeat (first | apply Kd.Q_alloc | apply Kd.Q_drewN | apply Kd.Q_drew)); exact HO319.out⟩, ⟨z_106⟩, ⟨z_113⟩, ⟨z_109⟩⟩
             ·rw [if_neg c46] at H
              exact absurd H (z_10)
           ·rw [if_neg c44] at H
            exact absurd H (z_10)
          ·rw [if_neg c43] at H
           exact absurd H (z_10)
      ·rw [if_neg c26] at H
       have c26b0 : decide (x14_2 < (l0.length : Int)) = false := decide_eq_false c26
       clear c26
       by_cases c48 : x13_2.length < 2199023255552
       ·rw [if_pos c48] at H
        have LMc48 := Aside0.mk c48
        clear c48
        obtain ⟨y300, hy300⟩ : ∃ y_ : List (S83), y_ = (x13_2 ++ [(⟨(⟨t285, t286, t287, t288, t289⟩ : S26), wrap64 (a3 + t289)⟩ : S83)]) := ⟨_, rfl⟩
        replace H : (if (y300.length : Int) > 5 then (if 1 ≤ (y300.length : Int) then (some ((y300.drop (1 : Int).toNat), t285, t286, t287, t288, t289, false)) else (none)) else (some (y300, t285, t286, t287, t288, t289, false))) = some (r1, r2, r3, r4, r5, r6, r7) := by first | (rw [hy300]; with_reducible exact H) | (have H2_ := (Option.bind_some _ _).symm.trans H; rw [hy300]; with_reducible exact H2_) | (have H2_ := (Option.bind_some _ _).symm.trans H; with_reducible exact H2_) | with_reducible exact H | (rw [hy300]; exact H) | exact H
        have Ny300 := Aside0.mk hy300
        clear hy300
        by_cases c49 : (y300.length : Int) > 5
        ·rw [if_pos c49] at H
         have c49b0 : decide (5 < (y300.length : Int)) = true := decide_eq_true c49
         have c49b1 : decide (5 < y300.length) = true := decide_eq_true (z_20)
         clear c49
         by_cases c50 : 1 ≤ (y300.length : Int)
         ·rw [if_pos c50] at H
          have c50b0 := eq_true c50
          have c50b1 : decide (1 ≤ (y300.length : Int)) = true := decide_eq_true c50
          clear c50
          obtain ⟨y303, hy303⟩ : ∃ y_ : List (S83), y_ = (y300.drop (1 : Int).toNat) := ⟨_, rfl⟩
          replace H : (some (y303, t285, t286, t287, t288, t289, false)) = some (r1, r2, r3, r4, r5, r6, r7) := by first | (rw [hy303]; with_reducible exact H) | (have H2_ := (Option.bind_some _ _).symm.trans H; rw [hy303]; with_reducible exact H2_) | (have H2_ := (Option.bind_some _ _).symm.trans H; with_reducible exact H2_) | with_reducible exact H | (rw [hy303]; exact H) | exact H
          have Ny303 := Aside0.mk hy303
          clear hy303
          simp only [Option.some.injEq, Prod.mk.injEq] at H
          obtain ⟨rfl, rfl, rfl, rfl, rfl, rfl, rfl⟩ := H
          have hnb51 := NB291_284.out
          have hnc51 := NB284_291.out
          have hcz52_0 : wr.cell? ⟨gb291, 0, none⟩ = some (.string t285) := (blk_cell BK291.out 0).trans rfl
          have hcz52_1 : wr.cell? ⟨gb291, 1, none⟩ = some (.int .i64 t286) := (blk_cell BK291.out 1).trans rfl
          have hcz52_2 : wr.cell? ⟨gb291, 2, none⟩ = some (.int .i64 t287) := (blk_cell BK291.out 2).trans rfl
          have hcz52_3 : wr.cell? ⟨gb291, 3, none⟩ = some (.string t288) := (blk_cell BK291.out 3).trans rfl
          have hcz52_4 : wr.cell? ⟨gb291, 4, none⟩ = some (.int .i64 t289) := (blk_cell BK291.out 4).trans rfl
          have hfz52_0 := blk_frozen BK291.out 0
          have hfz52_1 := blk_frozen BK291.out 1
          have hfz52_2 := blk_frozen BK291.out 2
          have hfz52_3 := blk_frozen BK291.out 3
          have hfz52_4 := blk_frozen BK291.out 4
          try go_wp2_with (first | ((with_reducible refine gate_builtin (b := .append) (xs := #[.tmp 82, .tmp 89]) rfl ?_); at_builtin; refine Kd.Q_append k83 (w0 := w) w.heap.size rfl (.tmp 82) (.tmp 89) 48 83 (.agg #[(.string ⟨#[]⟩), (.int .i64 0), (.int .i64 0), (.string ⟨#[]⟩), (.int .i64 0), (.int .i64 0)]) 64 rfl Try.underlying48 info83 rfl (z_19) (z_20) u13 x13_2 (⟨(⟨t285, t286, t287, t288, t289⟩ : S26), wrap64 (a3 + t289)⟩ : S83) [.string t285, .int .i64 t286, .int .i64 t287, .string t288, .int .i64 t289, .int .i64 (wrap64 (a3 + t289))] (fun _ => True) (fun _ => False) rfl rfl ?aP (fun _ hk => hk.elim) ?aF ?aO ?aB ?aS ?aL ?_; (case aP => exact k83_mkM _ _ _ (⟨(⟨t285, t286, t287, t288, t289⟩ : S26), wrap64 (a3 + t289)⟩ : S83)); (case aB => exact z_115); (case aF => exact (fun _ _ => trivial)); (case aO => exact z_129); (case aS => exact z_116); (case aL => have := LMc48.out; omega); intro v301 w53 ho hb hg hat; rw [← Ny300.out] at ho; have n0_ := Aside0.mk (blk_grown (g := gb284) (o := .cells #[.string x285000_2, .int .i64 x285001_2, .int .i64 x285002_2, .string x285003_2, .int .i64 x285004_2] 26 (0, 0)) (z_106) hg (Kd.Q_ne HO_13.out BK284.out (z_19))); have n1_ := Aside0.mk (blk_grown (g := gb291) (o := .cells #[.string t285, .int .i64 t286, .int .i64 t287, .string t288, .int .i64 t289] 26 (0, 0)) (z_113) hg (Kd.Q_ne HO_13.out BK291.out (z_19))); have n2_ := Aside0.mk (hb); have n3_ := Aside0.mk (ho); clear BK284; clear BK291; clear HB; clear HO_13; have BK284 := n0_; have BK291 := n1_; have HB := n2_; have HO302 := n3_; clear n0_ n1_ n2_ n3_; clear ho hb hg hat; obtain ⟨Ao54, co54, eo54, _⟩ := Kd.Q_slice HO302.out; subst eo54; have q55 : (1 : Int) ≤ ((y300.length : Int) : Int) := of_decide_eq_true (z_7); obtain ⟨i055, hi055, _, hsz55, _⟩ := info_parts info83; have hcut55 := cut_from (P := Try.prog) 48 83 .i64 Try.underlying48 hi055 6 hsz55 Ao54 y300.length co54 1 (z_20) q55; have hr55 := Kd.Q_drop (k := (1 : Int).toNat) HO302.out (z_20); obtain ⟨A55, hA55⟩ : ∃ A1, A1 = (if co54 = (1 : Int).toNat then Ao54 else (Ao54 : Option Addr).map (·.add ((1 : Int).toNat * 6))) := ⟨_, rfl⟩; obtain ⟨c55, hc55⟩ : ∃ c1, c1 = co54 - (1 : Int).toNat := ⟨_, rfl⟩; have hy55 : y303.length = y300.length - (1 : Int).toNat := (by rw [Ny303.out, List.length_drop]); rw [← Ny303.out] at hr55; rw [← hy55, ← hA55, ← hc55] at hcut55; replace hr55 : Kd.Q k83 83 w53 w.heap.size (fun _ => True) (.slice A55 y303.length c55) y303 := (by rw [hA55, hc55, hy55]; exact hr55); have HE55 : Aside0 ((Value.slice A55 y303.length c55).ownBlock = (.slice Ao54 y300.length co54 : Value).ownBlock) := ⟨by rw [hA55]; split <;> (cases (Ao54 : Option Addr) <;> rfl)⟩; clear hy55 hi055 hsz55 HO302 hA55 hc55; have HO305 := Aside0.mk hr55; clear hr55; replace q55 := eq_true q55))
          have n0_ := Aside0.mk (Kd.Q_drew HO305.out)
          have n1_ := Aside0.mk (blk_drew BK284.out)
          have n2_ := Aside0.mk (blk_drew BK291.out)
          have n3_ := Aside0.mk (below_drew1 HB.out)
          clear HO305
          clear BK284
          clear BK291
          clear HB
          have HO305 := n0_
          have BK284 := n1_
          have BK291 := n2_
          have HB := n3_
          clear n0_ n1_ n2_ n3_
          refine start_ (n := 5) (S := fun w' => w'.cell? ⟨gb291, 0, none⟩ = some (.string t285) ∧ w'.cell? ⟨gb291, 1, none⟩ = some (.int .i64 t286) ∧ w'.cell? ⟨gb291, 2, none⟩ = some (.int .i64 t287) ∧ w'.cell? ⟨gb291, 3, none⟩ = some (.string t288) ∧ w'.cell? ⟨gb291, 4, none⟩ = some (.int .i64 t289)) (ds := []) #[F,F,F,F,F] (z_0) rfl rfl ⟨(blk_cell BK291.out 0).trans rfl, (blk_cell BK291.out 1).trans rfl, (blk_cell BK291.out 2).trans rfl, (blk_cell BK291.out 3).trans rfl, (blk_cell BK291.out 4).trans rfl⟩ (fun hHeld => ?_)
          generalize w53.drew = w56 at HO305 BK284 BK291 HB hHeld ⊢
          refine pure_ (i := 0) (N := some 96) (v := ?_) (a' := ?_) #[T,F,F,F,F] rfl rfl (z_0) (fun _ _ _ h => h) (Or.inl ⟨z_30, ?_⟩) ?_ ?_
          rotate_left
          ·intro w'
           go_simp
           with_reducible rfl
          rotate_left
          ·simp only [Act.put, List.setIfInBounds_toArray, List.set_cons_zero, List.set_cons_succ, i64_w, i32_w]
           rfl
          refine pure_ (i := 2) (N := some 8) (v := ?_) (a' := ?_) #[T,F,T,F,F] rfl rfl (z_0) (fun _ _ _ h => h) (Or.inl ⟨z_30, ?_⟩) ?_ ?_
          rotate_left
          ·intro w'
           go_simp
           with_reducible rfl
          rotate_left
          ·simp only [Act.put, List.setIfInBounds_toArray, List.set_cons_zero, List.set_cons_succ, i64_w, i32_w]
           rfl
          refine take_ (i := 1) (N := some 97) (v := ?_) (a' := ?_) #[T,T,T,F,F] rfl rfl (z_0) (fun _ _ _ h => h) (Or.inl ⟨z_30, ?_⟩) hHeld ?_ ?_
          rotate_left
          ·rintro w' ⟨s0, s1, s2, s3, s4⟩
           go_simp
           with_reducible rfl
          rotate_left
          ·simp only [Act.put, List.setIfInBounds_toArray, List.set_cons_zero, List.set_cons_succ, i64_w, i32_w]
           rfl
          refine one_ (i := 3) (N := none) #[T,T,T,T,F] rfl rfl (z_0) (z_19) (fun K hK => ?_)
          have hs57 : w56.cell? ⟨gb284, 0, none⟩ = some (.string x285000_2) := (blk_cell BK284.out 0).trans rfl
          have hfs57 := blk_frozen BK284.out 0
          have hns57_1 := NB291_284.out
          have hms57_1 := NB284_291.out
          have hs58 : w56.cell? ⟨gb284, 1, none⟩ = some (.int .i64 x285001_2) := (blk_cell BK284.out 1).trans rfl
          have hfs58 := blk_frozen BK284.out 1
          have hns58_1 := NB291_284.out
          have hms58_1 := NB284_291.out
          have hs59 : w56.cell? ⟨gb284, 2, none⟩ = some (.int .i64 x285002_2) := (blk_cell BK284.out 2).trans rfl
          have hfs59 := blk_frozen BK284.out 2
          have hns59_1 := NB291_284.out
          have hms59_1 := NB284_291.out
          have hs60 : w56.cell? ⟨gb284, 3, none⟩ = some (.string x285003_2) := (blk_cell BK284.out 3).trans rfl
          have hfs60 := blk_frozen BK284.out 3
          have hns60_1 := NB291_284.out
          have hms60_1 := NB284_291.out
          have hs61 : w56.cell? ⟨gb284, 4, none⟩ = some (.int .i64 x285004_2) := (blk_cell BK284.out 4).trans rfl
          have hfs61 := blk_frozen BK284.out 4
          have hns61_1 := NB291_284.out
          have hms61_1 := NB284_291.out
          refine skip_ (w1 := ?_) (z_30) rfl ?_ ?_
          rotate_left
          ·go_simp
           rfl
          refine hK.out _ _ ⟨((cell_far (p := ⟨gb284, _, none⟩) NB291_284.out _).trans (((cell_far (p := ⟨gb284, _, none⟩) NB291_284.out _).trans (((cell_far (p := ⟨gb284, _, none⟩) NB291_284.out _).trans (((cell_far (p := ⟨gb284, _, none⟩) NB291_284.out _).trans (((cell_far (p := ⟨gb284, _, none⟩) NB291_284.out _).trans (hHeld.1)))))))))), ((cell_far (p := ⟨gb284, _, none⟩) NB291_284.out _).trans (((cell_far (p := ⟨gb284, _, none⟩) NB291_284.out _).trans (((cell_far (p := ⟨gb284, _, none⟩) NB291_284.out _).trans (((cell_far (p := ⟨gb284, _, none⟩) NB291_284.out _).trans (((cell_far (p := ⟨gb284, _, none⟩) NB291_284.out _).trans (hHeld.2.1)))))))))), ((cell_far (p := ⟨gb284, _, none⟩) NB291_284.out _).trans (((cell_far (p := ⟨gb284, _, none⟩) NB291_284.out _).trans (((cell_far (p := ⟨gb284, _, none⟩) NB291_284.out _).trans (((cell_far (p := ⟨gb284, _, none⟩) NB291_284.out _).trans (((cell_far (p := ⟨gb284, _, none⟩) NB291_284.out _).trans (hHeld.2.2.1)))))))))), ((cell_far (p := ⟨gb284, _, none⟩) NB291_284.out _).trans (((cell_far (p := ⟨gb284, _, none⟩) NB291_284.out _).trans (((cell_far (p := ⟨gb284, _, none⟩) NB291_284.out _).trans (((cell_far (p := ⟨gb284, _, none⟩) NB291_284.out _).trans (((cell_far (p := ⟨gb284, _, none⟩) NB291_284.out _).trans (hHeld.2.2.2.1)))))))))), ((cell_far (p := ⟨gb284, _, none⟩) NB291_284.out _).trans (((cell_far (p := ⟨gb284, _, none⟩) NB291_284.out _).trans (((cell_far (p := ⟨gb284, _, none⟩) NB291_284.out _).trans (((cell_far (p := ⟨gb284, _, none⟩) NB291_284.out _).trans (((cell_far (p := ⟨gb284, _, none⟩) NB291_284.out _).trans (hHeld.2.2.2.2))))))))))⟩ (fun hHeld => ?_)
          clear hK K
          refine pure_ (i := 4) (N := some 10) (v := ?_) (a' := ?_) #[T,T,T,T,T] rfl rfl (z_0) (fun _ _ _ h => h) (Or.inl ⟨z_30, ?_⟩) ?_ ?_
          rotate_left
          ·intro w'
           go_simp
           with_reducible rfl
          rotate_left
          ·simp only [Act.put, List.setIfInBounds_toArray, List.set_cons_zero, List.set_cons_succ, i64_w, i32_w]
           rfl
          refine done_ (z_0) ?_
          try go_wp2
          refine bodyPost_ret (results_list (rs := [.tmp 8, .cell 9 26, .tmp 10]) rfl (z_10) (.tmp (.cell gb284 26 #[.string t285, .int .i64 t286, .int .i64 t287, .string t288, .int .i64 t289] (0, 0) _ rfl (z_130) Try.underlying26 rfl (z_0) (.tmp .nil)))) rfl ?_
          exact ⟨_, z_4, by (with_reducible repeat (first | apply Kd.Q_alloc | apply Kd.Q_drewN | apply Kd.Q_drew)); exact Kd.Q_mono (Kd.Q_far (p := ⟨gb284, 4, none⟩) (Kd.Q_far (p := ⟨gb284, 3, none⟩) (Kd.Q_far (p := ⟨gb284, 2, none⟩) (Kd.Q_far (p := ⟨gb284, 1, none⟩) (Kd.Q_far (p := ⟨gb284, 0, none⟩) (Kd.Q_types HO305.out BK284.out (z_19)) (fun _ hk => hk.2) (.string t285)) (fun _ hk => hk.2) (.int .i64 t286)) (fun _ hk => hk.2) (.int .i64 t287)) (fun _ hk => hk.2) (.string t288)) (fun _ hk => hk.2) (.int .i64 t289)) (fun _ hk => trivial), z_109⟩
         ·rw [if_neg c50] at H
          exact absurd H (z_10)
        ·rw [if_neg c49] at H
         have c49b0 : decide (5 < (y300.length : Int)) = false := decide_eq_false c49
         have c49b1 : decide (5 < y300.length) = false := decide_eq_false (z_20)
         clear c49
         simp only [Option.some.injEq, Prod.mk.injEq] at H
         obtain ⟨rfl, rfl, rfl, rfl, rfl, rfl, rfl⟩ := H
         have hnb62 := NB291_284.out
         have hnc62 := NB284_291.out
         have hcz63_0 : wr.cell? ⟨gb291, 0, none⟩ = some (.string t285) := (blk_cell BK291.out 0).trans rfl
         have hcz63_1 : wr.cell? ⟨gb291, 1, none⟩ = some (.int .i64 t286) := (blk_cell BK291.out 1).trans rfl
         have hcz63_2 : wr.cell? ⟨gb291, 2, none⟩ = some (.int .i64 t287) := (blk_cell BK291.out 2).trans rfl
         have hcz63_3 : wr.cell? ⟨gb291, 3, none⟩ = some (.string t288) := (blk_cell BK291.out 3).trans rfl
         have hcz63_4 : wr.cell? ⟨gb291, 4, none⟩ = some (.int .i64 t289) := (blk_cell BK291.out 4).trans rfl
         have hfz63_0 := blk_frozen BK291.out 0
         have hfz63_1 := blk_frozen BK291.out 1
         have hfz63_2 := blk_frozen BK291.out 2
         have hfz63_3 := blk_frozen BK291.out 3
         have hfz63_4 := blk_frozen BK291.out 4
         try go_wp2_with (first | ((with_reducible refine gate_builtin (b := .append) (xs := #[.tmp 82, .tmp 89]) rfl ?_); at_builtin; refine Kd.Q_append k83 (w0 := w) w.heap.size rfl (.tmp 82) (.tmp 89) 48 83 (.agg #[(.string ⟨#[]⟩), (.int .i64 0), (.int .i64 0), (.string ⟨#[]⟩), (.int .i64 0), (.int .i64 0)]) 64 rfl Try.underlying48 info83 rfl (z_19) (z_20) u13 x13_2 (⟨(⟨t285, t286, t287, t288, t289⟩ : S26), wrap64 (a3 + t289)⟩ : S83) [.string t285, .int .i64 t286, .int .i64 t287, .string t288, .int .i64 t289, .int .i64 (wrap64 (a3 + t289))] (fun _ => True) (fun _ => False) rfl rfl ?aP (fun _ hk => hk.elim) ?aF ?aO ?aB ?aS ?aL ?_; (case aP => exact k83_mkM _ _ _ (⟨(⟨t285, t286, t287, t288, t289⟩ : S26), wrap64 (a3 + t289)⟩ : S83)); (case aB => exact z_115); (case aF => exact (fun _ _ => trivial)); (case aO => exact z_129); (case aS => exact z_116); (case aL => have := LMc48.out; omega); intro v301 w64 ho hb hg hat; rw [← Ny300.out] at ho; have n0_ := Aside0.mk (blk_grown (g := gb284) (o := .cells #[.string x285000_2, .int .i64 x285001_2, .int .i64 x285002_2, .string x285003_2, .int .i64 x285004_2] 26 (0, 0)) (z_106) hg (Kd.Q_ne HO_13.out BK284.out (z_19))); have n1_ := Aside0.mk (blk_grown (g := gb291) (o := .cells #[.string t285, .int .i64 t286, .int .i64 t287, .string t288, .int .i64 t289] 26 (0, 0)) (z_113) hg (Kd.Q_ne HO_13.out BK291.out (z_19))); have n2_ := Aside0.mk (hb); have n3_ := Aside0.mk (ho); clear BK284; clear BK291; clear HB; clear HO_13; have BK284 := n0_; have BK291 := n1_; have HB := n2_; have HO302 := n3_; clear n0_ n1_ n2_ n3_; clear ho hb hg hat; obtain ⟨Ao65, co65, eo65, _⟩ := Kd.Q_slice HO302.out; subst eo65))
         have n0_ := Aside0.mk (Kd.Q_drew HO302.out)
         have n1_ := Aside0.mk (blk_drew BK284.out)
         have n2_ := Aside0.mk (blk_drew BK291.out)
         have n3_ := Aside0.mk (below_drew1 HB.out)
         clear HO302
         clear BK284
         clear BK291
         clear HB
         have HO302 := n0_
         have BK284 := n1_
         have BK291 := n2_
         have HB := n3_
         clear n0_ n1_ n2_ n3_
         refine start_ (n := 5) (S := fun w' => w'.cell? ⟨gb291, 0, none⟩ = some (.string t285) ∧ w'.cell? ⟨gb291, 1, none⟩ = some (.int .i64 t286) ∧ w'.cell? ⟨gb291, 2, none⟩ = some (.int .i64 t287) ∧ w'.cell? ⟨gb291, 3, none⟩ = some (.string t288) ∧ w'.cell? ⟨gb291, 4, none⟩ = some (.int .i64 t289)) (ds := []) #[F,F,F,F,F] (z_0) rfl rfl ⟨(blk_cell BK291.out 0).trans rfl, (blk_cell BK291.out 1).trans rfl, (blk_cell BK291.out 2).trans rfl, (blk_cell BK291.out 3).trans rfl, (blk_cell BK291.out 4).trans rfl⟩ (fun hHeld => ?_)
         generalize w64.drew = w66 at HO302 BK284 BK291 HB hHeld ⊢
         refine pure_ (i := 0) (N := some 96) (v := ?_) (a' := ?_) #[T,F,F,F,F] rfl rfl (z_0) (fun _ _ _ h => h) (Or.inl ⟨z_30, ?_⟩) ?_ ?_
         rotate_left
         ·intro w'
          go_simp
          with_reducible rfl
         rotate_left
         ·simp only [Act.put, List.setIfInBounds_toArray, List.set_cons_zero, List.set_cons_succ, i64_w, i32_w]
          rfl
         refine pure_ (i := 2) (N := some 8) (v := ?_) (a' := ?_) #[T,F,T,F,F] rfl rfl (z_0) (fun _ _ _ h => h) (Or.inl ⟨z_30, ?_⟩) ?_ ?_
         rotate_left
         ·intro w'
          go_simp
          with_reducible rfl
         rotate_left
         ·simp only [Act.put, List.setIfInBounds_toArray, List.set_cons_zero, List.set_cons_succ, i64_w, i32_w]
          rfl
         refine take_ (i := 1) (N := some 97) (v := ?_) (a' := ?_) #[T,T,T,F,F] rfl rfl (z_0) (fun _ _ _ h => h) (Or.inl ⟨z_30, ?_⟩) hHeld ?_ ?_
         rotate_left
         ·rintro w' ⟨s0, s1, s2, s3, s4⟩
          go_simp
          with_reducible rfl
         rotate_left
         ·simp only [Act.put, List.setIfInBounds_toArray, List.set_cons_zero, List.set_cons_succ, i64_w, i32_w]
          rfl
         refine one_ (i := 3) (N := none) #[T,T,T,T,F] rfl rfl (z_0) (z_19) (fun K hK => ?_)
         have hs67 : w66.cell? ⟨gb284, 0, none⟩ = some (.string x285000_2) := (blk_cell BK284.out 0).trans rfl
         have hfs67 := blk_frozen BK284.out 0
         have hns67_1 := NB291_284.out
         have hms67_1 := NB284_291.out
         have hs68 : w66.cell? ⟨gb284, 1, none⟩ = some (.int .i64 x285001_2) := (blk_cell BK284.out 1).trans rfl
         have hfs68 := blk_frozen BK284.out 1
         have hns68_1 := NB291_284.out
         have hms68_1 := NB284_291.out
         have hs69 : w66.cell? ⟨gb284, 2, none⟩ = some (.int .i64 x285002_2) := (blk_cell BK284.out 2).trans rfl
         have hfs69 := blk_frozen BK284.out 2
         have hns69_1 := NB291_284.out
         have hms69_1 := NB284_291.out
         have hs70 : w66.cell? ⟨gb284, 3, none⟩ = some (.string x285003_2) := (blk_cell BK284.out 3).trans rfl
         have hfs70 := blk_frozen BK284.out 3
         have hns70_1 := NB291_284.out
         have hms70_1 := NB284_291.out
         have hs71 : w66.cell? ⟨gb284, 4, none⟩ = some (.int .i64 x285004_2) := (blk_cell BK284.out 4).trans rfl
         have hfs71 := blk_frozen BK284.out 4
         have hns71_1 := NB291_284.out
         have hms71_1 := NB284_291.out
         refine skip_ (w1 := ?_) (z_30) rfl ?_ ?_
         rotate_left
         ·go_simp
          rfl
         refine hK.out _ _ ⟨((cell_far (p := ⟨gb284, _, none⟩) NB291_284.out _).trans (((cell_far (p := ⟨gb284, _, none⟩) NB291_284.out _).trans (((cell_far (p := ⟨gb284, _, none⟩) NB291_284.out _).trans (((cell_far (p := ⟨gb284, _, none⟩) NB291_284.out _).trans (((cell_far (p := ⟨gb284, _, none⟩) NB291_284.out _).trans (hHeld.1)))))))))), ((cell_far (p := ⟨gb284, _, none⟩) NB291_284.out _).trans (((cell_far (p := ⟨gb284, _, none⟩) NB291_284.out _).trans (((cell_far (p := ⟨gb284, _, none⟩) NB291_284.out _).trans (((cell_far (p := ⟨gb284, _, none⟩) NB291_284.out _).trans (((cell_far (p := ⟨gb284, _, none⟩) NB291_284.out _).trans (hHeld.2.1)))))))))), ((cell_far (p := ⟨gb284, _, none⟩) NB291_284.out _).trans (((cell_far (p := ⟨gb284, _, none⟩) NB291_284.out _).trans (((cell_far (p := ⟨gb284, _, none⟩) NB291_284.out _).trans (((cell_far (p := ⟨gb284, _, none⟩) NB291_284.out _).trans (((cell_far (p := ⟨gb284, _, none⟩) NB291_284.out _).trans (hHeld.2.2.1)))))))))), ((cell_far (p := ⟨gb284, _, none⟩) NB291_284.out _).trans (((cell_far (p := ⟨gb284, _, none⟩) NB291_284.out _).trans (((cell_far (p := ⟨gb284, _, none⟩) NB291_284.out _).trans (((cell_far (p := ⟨gb284, _, none⟩) NB291_284.out _).trans (((cell_far (p := ⟨gb284, _, none⟩) NB291_284.out _).trans (hHeld.2.2.2.1)))))))))), ((cell_far (p := ⟨gb284, _, none⟩) NB291_284.out _).trans (((cell_far (p := ⟨gb284, _, none⟩) NB291_284.out _).trans (((cell_far (p := ⟨gb284, _, none⟩) NB291_284.out _).trans (((cell_far (p := ⟨gb284, _, none⟩) NB291_284.out _).trans (((cell_far (p := ⟨gb284, _, none⟩) NB291_284.out _).trans (hHeld.2.2.2.2))))))))))⟩ (fun hHeld => ?_)
         clear hK K
         refine pure_ (i := 4) (N := some 10) (v := ?_) (a' := ?_) #[T,T,T,T,T] rfl rfl (z_0) (fun _ _ _ h => h) (Or.inl ⟨z_30, ?_⟩) ?_ ?_
         rotate_left
         ·intro w'
          go_simp
          with_reducible rfl
         rotate_left
         ·simp only [Act.put, List.setIfInBounds_toArray, List.set_cons_zero, List.set_cons_succ, i64_w, i32_w]
          rfl
         refine done_ (z_0) ?_
         try go_wp2
         refine bodyPost_ret (results_list (rs := [.tmp 8, .cell 9 26, .tmp 10]) rfl (z_10) (.tmp (.cell gb284 26 #[.string t285, .int .i64 t286, .int .i64 t287, .string t288, .int .i64 t289] (0, 0) _ rfl (z_130) Try.underlying26 rfl (z_0) (.tmp .nil)))) rfl ?_
         exact ⟨_, z_4, by (with_reducible repeat (first | apply Kd.Q_alloc | apply Kd.Q_drewN | apply Kd.Q_drew)); exact Kd.Q_mono (Kd.Q_far (p := ⟨gb284, 4, none⟩) (Kd.Q_far (p := ⟨gb284, 3, none⟩) (Kd.Q_far (p := ⟨gb284, 2, none⟩) (Kd.Q_far (p := ⟨gb284, 1, none⟩) (Kd.Q_far (p := ⟨gb284, 0, none⟩) (Kd.Q_types HO302.out BK284.out (z_19)) (fun _ hk => hk.2) (.string t285)) (fun _ hk => hk.2) (.int .i64 t286)) (fun _ hk => hk.2) (.int .i64 t287)) (fun _ hk => hk.2) (.string t288)) (fun _ hk => hk.2) (.int .i64 t289)) (fun _ hk => trivial), z_109⟩
       ·rw [if_neg c48] at H
        exact absurd H (z_10)

end Go.Proofs.Ytmgnmgobibpjjaa.GFnExactKeptFind
