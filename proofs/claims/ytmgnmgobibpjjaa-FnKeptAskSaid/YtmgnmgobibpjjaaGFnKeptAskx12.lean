/- What the Go functions that FnKeptAsk reaches come to, walked step by step; there is no condition beyond those each statement names. -/
import Derived.Test.YtmgnmgobibpjjaaGFnKeptAskx0
import Derived.Test.YtmgnmgobibpjjaaGFnKeptAskx8
import Derived.Test.YtmgnmgobibpjjaaGFnKeptAskx11
namespace Go.Proofs.Ytmgnmgobibpjjaa.GFnKeptAsk
open Go.RowKit Go.Proofs.YtmgnmgobibpjjaaVKeptAsk.PrintWords Go.Proofs.YtmgnmgobibpjjaaVKeptAsk.PrintLast Go.Proofs.YtmgnmgobibpjjaaVKeptAsk.PrintMore
open Bool renaming true → T, false → F
attribute [local go_sem] max2_int min2_int max_two min_two max_three min_three max_four min_four   -- for this text's walks alone
set_option linter.unusedVariables false
set_option linter.unusedSimpArgs false

/-! ### spec_KeptAsk: function 45 -/
mutual
def spec_KeptAsk.j0 : Nat → List (S83) → ByteArray → Int → Bool → ByteArray → Int → Int → ByteArray → Int → Option ((List (S83)) × ByteArray × Int × Int × ByteArray × Int × Bool)
 | 0, _, _, _, _, _, _, _, _, _ => none
 | k + 1, x0, x2, x3, x32, x262000, x262001, x262002, x262003, x262004 => if x32 = true then (some ((([] : List (S83))), (⟨#[]⟩ : ByteArray), 0, 0, (⟨#[]⟩ : ByteArray), 0, false)) else (spec_KeptAsk.l0 k x0 x2 x3 (([] : List (S83))) 0 x262000 x262001 x262002 x262003 x262004)
def spec_KeptAsk.l0 : Nat → List (S83) → ByteArray → Int → List (S83) → Int → ByteArray → Int → Int → ByteArray → Int → Option ((List (S83)) × ByteArray × Int × Int × ByteArray × Int × Bool)
 | 0, _, _, _, _, _, _, _, _, _, _ => none
 | k + 1, x0, x2, x3, x13, x14, x262000, x262001, x262002, x262003, x262004 => if x14 < (x0.length : Int) then (if 0 ≤ x14 then (if ((rd_T83 x0 x14).f0.f0).toList = x2.toList then (spec_KeptAsk.j2 k x0 x2 x3 x13 x14 (decide (((rd_T83 x0 x14).f1) > x3)) x262000 x262001 x262002 x262003 x262004) else (spec_KeptAsk.j2 k x0 x2 x3 x13 x14 false x262000 x262001 x262002 x262003 x262004)) else (none)) else (if x13.length < 2199023255552 then ((some (x13 ++ [(⟨(⟨x262000, x262001, x262002, x262003, x262004⟩ : S26), wrap64 (x3 + x262004)⟩ : S83)] : List (S83))).bind fun y270 => (if (y270.length : Int) > 5 then (if 1 ≤ (y270.length : Int) then (some ((y270.drop (1 : Int).toNat), x262000, x262001, x262002, x262003, x262004, false)) else (none)) else (some (y270, x262000, x262001, x262002, x262003, x262004, false)))) else (none))
def spec_KeptAsk.j2 : Nat → List (S83) → ByteArray → Int → List (S83) → Int → Bool → ByteArray → Int → Int → ByteArray → Int → Option ((List (S83)) × ByteArray × Int × Int × ByteArray × Int × Bool)
 | 0, _, _, _, _, _, _, _, _, _, _, _ => none
 | k + 1, x0, x2, x3, x13, x14, x58, x262000, x262001, x262002, x262003, x262004 => if x58 = true then ((some (([] : List (S83)) : List (S83))).bind fun y278 => (if y278.length + x0.length < 2199023255552 then (if 0 ≤ x14 then (if x14 < (x0.length : Int) then (some ((y278 ++ x0), (rd_T83 x0 x14).f0.f0, (rd_T83 x0 x14).f0.f1, (rd_T83 x0 x14).f0.f2, (rd_T83 x0 x14).f0.f3, (rd_T83 x0 x14).f0.f4, true)) else (none)) else (none)) else (none))) else (if 0 ≤ x14 then (if x14 < (x0.length : Int) then (if ((rd_T83 x0 x14).f0.f0).toList = x2.toList then (spec_KeptAsk.l0 k x0 x2 x3 x13 (wrap64 (x14 + 1)) x262000 x262001 x262002 x262003 x262004) else (if x13.length < 2199023255552 then (spec_KeptAsk.l0 k x0 x2 x3 (x13 ++ [(⟨(⟨(rd_T83 x0 x14).f0.f0, (rd_T83 x0 x14).f0.f1, (rd_T83 x0 x14).f0.f2, (rd_T83 x0 x14).f0.f3, (rd_T83 x0 x14).f0.f4⟩ : S26), (rd_T83 x0 x14).f1⟩ : S83)]) (wrap64 (x14 + 1)) x262000 x262001 x262002 x262003 x262004) else (none))) else (none)) else (none))
end
def spec_KeptAsk.f (k : Nat) (l0 : List (S83)) (l1 : List (S26)) (a2 : ByteArray) (a3 : Int) : Option ((List (S83)) × ByteArray × Int × Int × ByteArray × Int × Bool) := (spec_NameAsk.f k l1 a2).bind fun bt255 => ((spec_KeptOk.f k l0).bind fun t262 => (if t262 = true then (if bt255.2.2.2.2.2 = true then ((spec_l1In.f a3 0 900000).bind fun t263 => (spec_KeptAsk.j0 k l0 a2 a3 (!t263) bt255.1 bt255.2.1 bt255.2.2.1 bt255.2.2.2.1 bt255.2.2.2.2.1)) else (spec_KeptAsk.j0 k l0 a2 a3 true bt255.1 bt255.2.1 bt255.2.2.1 bt255.2.2.2.1 bt255.2.2.2.2.1)) else (spec_KeptAsk.j0 k l0 a2 a3 true bt255.1 bt255.2.1 bt255.2.2.1 bt255.2.2.2.1 bt255.2.2.2.2.1)))
theorem spec_KeptAsk.mono_l : ∀ k, (∀ y0 y1 y2 y3 y4 y5 y6 y7 y8, LeO (spec_KeptAsk.j0 k y0 y1 y2 y3 y4 y5 y6 y7 y8) (spec_KeptAsk.j0 (k + 1) y0 y1 y2 y3 y4 y5 y6 y7 y8)) ∧ (∀ y0 y1 y2 y3 y4 y5 y6 y7 y8 y9, LeO (spec_KeptAsk.l0 k y0 y1 y2 y3 y4 y5 y6 y7 y8 y9) (spec_KeptAsk.l0 (k + 1) y0 y1 y2 y3 y4 y5 y6 y7 y8 y9)) ∧ (∀ y0 y1 y2 y3 y4 y5 y6 y7 y8 y9 y10, LeO (spec_KeptAsk.j2 k y0 y1 y2 y3 y4 y5 y6 y7 y8 y9 y10) (spec_KeptAsk.j2 (k + 1) y0 y1 y2 y3 y4 y5 y6 y7 y8 y9 y10))
 | 0 => ⟨fun _ _ _ _ _ _ _ _ _ r h => by simp [spec_KeptAsk.j0] at h, fun _ _ _ _ _ _ _ _ _ _ r h => by simp [spec_KeptAsk.l0] at h, fun _ _ _ _ _ _ _ _ _ _ _ r h => by simp [spec_KeptAsk.j2] at h⟩
 | k + 1 => by
  obtain ⟨ih0, ih1, ih2⟩ := spec_KeptAsk.mono_l k
  refine ⟨?_, ?_, ?_⟩
  ·intro y0 y1 y2 y3 y4 y5 y6 y7 y8
   unfold spec_KeptAsk.j0
   repeat' first
   | (with_reducible exact ih0 _ _ _ _ _ _ _ _ _)
   | (with_reducible exact ih1 _ _ _ _ _ _ _ _ _ _)
   | (with_reducible exact ih2 _ _ _ _ _ _ _ _ _ _ _)
   | (with_reducible exact spec_KeptOk.mono _ _)
   | (with_reducible exact spec_NameAsk.mono _ _ _)
   | (with_reducible exact LeO.refl _)
   | (with_reducible exact LeO.none _)
   | (with_reducible refine LeO.ite ?_ ?_)
   | (with_reducible refine LeO.bind ?_ (fun _ => ?_))
   | exact ih0 _ _ _ _ _ _ _ _ _
   | exact ih1 _ _ _ _ _ _ _ _ _ _
   | exact ih2 _ _ _ _ _ _ _ _ _ _ _
   | exact spec_KeptOk.mono _ _
   | exact spec_NameAsk.mono _ _ _
   | exact LeO.none _
   | refine LeO.ite ?_ ?_
   | refine LeO.bind ?_ (fun _ => ?_)
  ·intro y0 y1 y2 y3 y4 y5 y6 y7 y8 y9
   unfold spec_KeptAsk.l0
   repeat' first
   | (with_reducible exact ih0 _ _ _ _ _ _ _ _ _)
   | (with_reducible exact ih1 _ _ _ _ _ _ _ _ _ _)
   | (with_reducible exact ih2 _ _ _ _ _ _ _ _ _ _ _)
   | (with_reducible exact spec_KeptOk.mono _ _)
   | (with_reducible exact spec_NameAsk.mono _ _ _)
   | (with_reducible exact LeO.refl _)
   | (with_reducible exact LeO.none _)
   | (with_reducible refine LeO.ite ?_ ?_)
   | (with_reducible refine LeO.bind ?_ (fun _ => ?_))
   | exact ih0 _ _ _ _ _ _ _ _ _
   | exact ih1 _ _ _ _ _ _ _ _ _ _
   | exact ih2 _ _ _ _ _ _ _ _ _ _ _
   | exact spec_KeptOk.mono _ _
   | exact spec_NameAsk.mono _ _ _
   | exact LeO.none _
   | refine LeO.ite ?_ ?_
   | refine LeO.bind ?_ (fun _ => ?_)
  ·intro y0 y1 y2 y3 y4 y5 y6 y7 y8 y9 y10
   unfold spec_KeptAsk.j2
   repeat' first
   | (with_reducible exact ih0 _ _ _ _ _ _ _ _ _)
   | (with_reducible exact ih1 _ _ _ _ _ _ _ _ _ _)
   | (with_reducible exact ih2 _ _ _ _ _ _ _ _ _ _ _)
   | (with_reducible exact spec_KeptOk.mono _ _)
   | (with_reducible exact spec_NameAsk.mono _ _ _)
   | (with_reducible exact LeO.refl _)
   | (with_reducible exact LeO.none _)
   | (with_reducible refine LeO.ite ?_ ?_)
   | (with_reducible refine LeO.bind ?_ (fun _ => ?_))
   | exact ih0 _ _ _ _ _ _ _ _ _
   | exact ih1 _ _ _ _ _ _ _ _ _ _
   | exact ih2 _ _ _ _ _ _ _ _ _ _ _
   | exact spec_KeptOk.mono _ _
   | exact spec_NameAsk.mono _ _ _
   | exact LeO.none _
   | refine LeO.ite ?_ ?_
   | refine LeO.bind ?_ (fun _ => ?_)
theorem spec_KeptAsk.mono : ∀ a0 a1 a2 a3 k, LeO (spec_KeptAsk.f k a0 a1 a2 a3) (spec_KeptAsk.f (k + 1) a0 a1 a2 a3) := by
 intro a0 a1 a2 a3 k
 obtain ⟨ih0, ih1, ih2⟩ := spec_KeptAsk.mono_l k
 unfold spec_KeptAsk.f
 repeat' first
   | (with_reducible exact ih0 _ _ _ _ _ _ _ _ _)
   | (with_reducible exact ih1 _ _ _ _ _ _ _ _ _ _)
   | (with_reducible exact ih2 _ _ _ _ _ _ _ _ _ _ _)
   | (with_reducible exact spec_KeptOk.mono _ _)
   | (with_reducible exact spec_NameAsk.mono _ _ _)
   | (with_reducible exact LeO.refl _)
   | (with_reducible exact LeO.none _)
   | (with_reducible refine LeO.ite ?_ ?_)
   | (with_reducible refine LeO.bind ?_ (fun _ => ?_))
   | exact ih0 _ _ _ _ _ _ _ _ _
   | exact ih1 _ _ _ _ _ _ _ _ _ _
   | exact ih2 _ _ _ _ _ _ _ _ _ _ _
   | exact spec_KeptOk.mono _ _
   | exact spec_NameAsk.mono _ _ _
   | exact LeO.none _
   | refine LeO.ite ?_ ?_
   | refine LeO.bind ?_ (fun _ => ?_)
def spec_KeptAsk.T9 : Bool × List (List Nat × List Nat) := (true, [([], []), ([], []), ([0, 1], [0, 1]), ([], []), ([], []), ([3, 4], [3, 4]), ([5], [5]), ([6], [6]), ([2, 2, 0, 1, 2], [2]), ([7, 8, 0, 1, 2, 3, 4, 5, 6, 7, 8], [7]), ([9, 0, 1, 2, 3, 4, 5, 6, 7, 8, 9], [])])
def spec_KeptAsk.B9 : List Nat := [0, 0, 3, 0, 0, 24, 56, 120, 7, 511, 1023]
theorem spec_KeptAsk.tab9 : rtab .any (opsOf Try.f45 9) = spec_KeptAsk.T9 := z_0
theorem spec_KeptAsk.bits9 : waitsOk spec_KeptAsk.T9.2 spec_KeptAsk.B9 = true := z_0
set_option maxHeartbeats 8000000 in
set_option maxRecDepth 100000 in
theorem spec_KeptAsk.calls (k : Nat) (A0 : Option Addr) (c0 : Nat) (l0 : List (S83)) (A1 : Option Addr) (c1 : Nat) (l1 : List (S26)) (a2 : ByteArray) (a3 : Int) (r1 : List (S83)) (r2 : ByteArray) (r3 : Int) (r4 : Int) (r5 : ByteArray) (r6 : Int) (r7 : Bool) (w : World) (hr0 : Kd.C k83 w A0 l0.length l0) (hc0 : l0.length ≤ c0) (hr1 : Kd.C k26 w A1 l1.length l1) (hc1 : l1.length ≤ c1) (h : spec_KeptAsk.f k l0 l1 a2 a3 = some (r1, r2, r3, r4, r5, r6, r7)) :
  Calls Try.prog 45 #[.slice A0 l0.length c0, .slice A1 l1.length c1, .string a2, .int .i64 a3] w fun e w' => ∃ v0_ : Value, e = .returned (.tuple #[v0_, .agg #[.string r2, .int .i64 r3, .int .i64 r4, .string r5, .int .i64 r6], .bool r7]) ∧ Kd.Q k83 83 w' w.heap.size (fun _ => True) v0_ r1 ∧ Below w.heap.size w w' := by
 have hu26 := Try.underlying26
 have hu83 := Try.underlying83
 have HR0 := Aside0.mk hr0
 have HC0 := Aside0.mk hc0
 clear hr0 hc0
 have HR1 := Aside0.mk hr1
 have HC1 := Aside0.mk hc1
 clear hr1 hc1
 have HB := Aside0.mk (Below.refl w.heap.size w)
 have H : ((spec_NameAsk.f k l1 a2).bind fun bt255 => ((spec_KeptOk.f k l0).bind fun t262 => (if t262 = true then (if bt255.2.2.2.2.2 = true then ((spec_l1In.f a3 0 900000).bind fun t263 => (spec_KeptAsk.j0 k l0 a2 a3 (!t263) bt255.1 bt255.2.1 bt255.2.2.1 bt255.2.2.2.1 bt255.2.2.2.2.1)) else (spec_KeptAsk.j0 k l0 a2 a3 true bt255.1 bt255.2.1 bt255.2.2.1 bt255.2.2.2.1 bt255.2.2.2.2.1)) else (spec_KeptAsk.j0 k l0 a2 a3 true bt255.1 bt255.2.1 bt255.2.2.1 bt255.2.2.2.1 bt255.2.2.2.2.1)))) = some (r1, r2, r3, r4, r5, r6, r7) := h
 clear h
 replace H := Option.bind_eq_some_iff.mp H
 obtain ⟨⟨t255, t256, t257, t258, t259, t260⟩, A50, H⟩ := H
 replace H : ((spec_KeptOk.f k l0).bind fun t262 => (if t262 = true then (if t260 = true then ((spec_l1In.f a3 0 900000).bind fun t263 => (spec_KeptAsk.j0 k l0 a2 a3 (!t263) t255 t256 t257 t258 t259)) else (spec_KeptAsk.j0 k l0 a2 a3 true t255 t256 t257 t258 t259)) else (spec_KeptAsk.j0 k l0 a2 a3 true t255 t256 t257 t258 t259))) = some (r1, r2, r3, r4, r5, r6, r7) := H
 have A5 := Aside0.mk A50
 clear A50
 have HC6 := Aside0.mk H
 clear H
 go_enter Try.func45, Try.ntmps45
 go_upto_region 2 with (first | ((with_reducible refine gate_dst (N := 9) rfl ?_); refine box_event ?hg (N := 9) ?hd (cs := #[.string (⟨#[]⟩ : ByteArray), .int .i64 0, .int .i64 0, .string (⟨#[]⟩ : ByteArray), .int .i64 0]) (t := 26) ?hr ?_; (case hd => rfl); (case hg => rfl); (case hr => exact z_9); intro gb254 hg w7 hbox hb; have n0_ := Aside0.mk (below_step (z_8) hb); have n1_ := Aside0.mk (hbox); have n2_ := Aside0.mk ((z_20 : w.heap.size ≤ gb254)); have n3_ := Aside0.mk ((z_20 : w.heap.size ≤ gb254)); clear HB; have HB := n0_; have BK254 := n1_; have GW254 := n2_; have GE254 := n3_; clear n0_ n1_ n2_ n3_; clear hb hbox hg) | ((with_reducible refine gate_callee (f := 30) rfl ?_); refine goesL_ (some 18) rfl rfl Try.func30 (z_0) rfl #[.slice A1 l1.length c1, .string a2] rfl (z_14) ?_; (with_reducible refine (spec_NameAsk.calls k _ _ l1 a2 t255 t256 t257 t258 t259 t260 _ ?side1 ?side2 A5.out).mono ?_); (case side1 => exact z_32); (case side2 => exact HC1.out); rintro e w8 ⟨rfl, hb⟩; refine ⟨_, rfl, ?_⟩; have n0_ := Aside0.mk (blk_below (g := gb254) (o := .cells #[.string (⟨#[]⟩ : ByteArray), .int .i64 0, .int .i64 0, .string (⟨#[]⟩ : ByteArray), .int .i64 0] 26 (0, 0)) (z_71) hb); have n1_ := Aside0.mk (below_step (z_72) hb); clear BK254; clear HB; have BK254 := n0_; have HB := n1_; clear n0_ n1_; (try clear hb); (try clear hb2); (try clear hk); (try clear hi)) | ((with_reducible refine gate_dst (N := 11) rfl ?_); refine box_event ?hg (N := 11) ?hd (cs := #[.string (⟨#[]⟩ : ByteArray), .int .i64 0, .int .i64 0, .string (⟨#[]⟩ : ByteArray), .int .i64 0]) (t := 26) ?hr ?_; (case hd => rfl); (case hg => rfl); (case hr => exact z_9); intro gb261 hg w9 hbox hb; have n0_ := Aside0.mk (blk_below (g := gb254) (o := .cells #[.string (⟨#[]⟩ : ByteArray), .int .i64 0, .int .i64 0, .string (⟨#[]⟩ : ByteArray), .int .i64 0] 26 (0, 0)) (z_71) hb); have n1_ := Aside0.mk (below_step (z_72) hb); have n2_ := Aside0.mk (hbox); have n3_ := Aside0.mk ((z_73 : w.heap.size ≤ gb261)); have n4_ := Aside0.mk ((z_73 : w.heap.size ≤ gb261)); have n5_ := Aside0.mk ((by rw [hg]; exact Nat.ne_of_lt (blk_lt (g := gb254) (o := .cells #[.string (⟨#[]⟩ : ByteArray), .int .i64 0, .int .i64 0, .string (⟨#[]⟩ : ByteArray), .int .i64 0] 26 (0, 0)) (z_71)) : gb254 ≠ gb261)); have n6_ := Aside0.mk ((by rw [hg]; exact Nat.ne_of_gt (blk_lt (g := gb254) (o := .cells #[.string (⟨#[]⟩ : ByteArray), .int .i64 0, .int .i64 0, .string (⟨#[]⟩ : ByteArray), .int .i64 0] 26 (0, 0)) (z_71)) : gb261 ≠ gb254)); clear BK254; clear HB; have BK254 := n0_; have HB := n1_; have BK261 := n2_; have GW261 := n3_; have GE261 := n4_; have NB254_261 := n5_; have NB261_254 := n6_; clear n0_ n1_ n2_ n3_ n4_ n5_ n6_; clear hb hbox hg; have hnb10 := NB261_254.out; have hnc10 := NB254_261.out; have hcz11_0 : w9.cell? ⟨gb261, 0, none⟩ = some (.string (⟨#[]⟩ : ByteArray)) := (blk_cell BK261.out 0).trans rfl; have hcz11_1 : w9.cell? ⟨gb261, 1, none⟩ = some (.int .i64 0) := (blk_cell BK261.out 1).trans rfl; have hcz11_2 : w9.cell? ⟨gb261, 2, none⟩ = some (.int .i64 0) := (blk_cell BK261.out 2).trans rfl; have hcz11_3 : w9.cell? ⟨gb261, 3, none⟩ = some (.string (⟨#[]⟩ : ByteArray)) := (blk_cell BK261.out 3).trans rfl; have hcz11_4 : w9.cell? ⟨gb261, 4, none⟩ = some (.int .i64 0) := (blk_cell BK261.out 4).trans rfl; have hfz11_0 := blk_frozen BK261.out 0; have hfz11_1 := blk_frozen BK261.out 1; have hfz11_2 := blk_frozen BK261.out 2; have hfz11_3 := blk_frozen BK261.out 3; have hfz11_4 := blk_frozen BK261.out 4))
 (try simp only [Act.put, List.setIfInBounds_toArray, List.set_cons_zero, List.set_cons_succ])
 go_cut [32] (fun v32 wc => ∃ (kq : Nat) (x32_5 : Bool), v32 = .bool x32_5 ∧ Aside0 (spec_KeptAsk.j0 kq l0 a2 a3 x32_5 t255 t256 t257 t258 t259 = some (r1, r2, r3, r4, r5, r6, r7)) ∧ Aside0 (kq ≤ k) ∧ Aside0 (wc.heap[gb254]? = some (.cells #[.string (⟨#[]⟩ : ByteArray), .int .i64 0, .int .i64 0, .string (⟨#[]⟩ : ByteArray), .int .i64 0] 26 (0, 0))) ∧ Aside0 (wc.heap[gb261]? = some (.cells #[.string t255, .int .i64 t256, .int .i64 t257, .string t258, .int .i64 t259] 26 (0, 0))) ∧ Aside0 (Below w.heap.size w wc))
 case first =>
  have H := HC6.out
  clear HC6
  replace H := Option.bind_eq_some_iff.mp H
  obtain ⟨t262, A120, H⟩ := H
  have A12 := Aside0.mk A120
  clear A120
  by_cases c13 : t262 = true
  ·subst c13
   rw [if_pos rfl] at H
   by_cases c14 : t260 = true
   ·subst c14
    rw [if_pos rfl] at H
    replace H := Option.bind_eq_some_iff.mp H
    obtain ⟨t263, A150, H⟩ := H
    have A15 := Aside0.mk A150
    clear A150
    have H' := Aside0.mk H
    clear H
    go_wp2_with (first | ((with_reducible refine gate_callee (f := 34) rfl ?_); refine goesL_ (some 22) rfl rfl Try.func34 (z_0) rfl #[.slice A0 l0.length c0] rfl (z_14) ?_; (with_reducible refine (spec_KeptOk.calls k _ _ l0 true _ ?side1 ?side2 A12.out).mono ?_); (case side1 => exact z_75); (case side2 => exact HC0.out); rintro e w16 ⟨rfl, hb⟩; refine ⟨_, rfl, ?_⟩; have n0_ := Aside0.mk (blk_below (g := gb254) (o := .cells #[.string (⟨#[]⟩ : ByteArray), .int .i64 0, .int .i64 0, .string (⟨#[]⟩ : ByteArray), .int .i64 0] 26 (0, 0)) (z_76) hb); have n1_ := Aside0.mk (blk_below (g := gb261) (o := .cells #[.string t255, .int .i64 t256, .int .i64 t257, .string t258, .int .i64 t259] 26 (0, 0)) (z_77) hb); have n2_ := Aside0.mk (below_step (z_74) hb); clear BK254; clear BK261; clear HB; have BK254 := n0_; have BK261 := n1_; have HB := n2_; clear n0_ n1_ n2_; (try clear hb); (try clear hb2); (try clear hk); (try clear hi)) | (go_at_call 55; (with_reducible refine (spec_l1In.calls a3 0 900000 t263 _ A15.out).mono ?_); rintro e w' ⟨rfl, ⟨nd, rfl⟩⟩))
    go_meet
    case rel => exact ⟨_, (!t263), (z_3), H', ⟨z_23⟩, ⟨z_71⟩, ⟨z_78⟩, ⟨z_74⟩⟩
   ·replace c14 := Bool.eq_false_iff.mpr c14
    subst c14
    rw [if_neg (show ¬ (false = true) by decide)] at H
    have H' := Aside0.mk H
    clear H
    go_wp2_with (first | ((with_reducible refine gate_callee (f := 34) rfl ?_); refine goesL_ (some 22) rfl rfl Try.func34 (z_0) rfl #[.slice A0 l0.length c0] rfl (z_14) ?_; (with_reducible refine (spec_KeptOk.calls k _ _ l0 true _ ?side1 ?side2 A12.out).mono ?_); (case side1 => exact z_75); (case side2 => exact HC0.out); rintro e w17 ⟨rfl, hb⟩; refine ⟨_, rfl, ?_⟩; have n0_ := Aside0.mk (blk_below (g := gb254) (o := .cells #[.string (⟨#[]⟩ : ByteArray), .int .i64 0, .int .i64 0, .string (⟨#[]⟩ : ByteArray), .int .i64 0] 26 (0, 0)) (z_76) hb); have n1_ := Aside0.mk (blk_below (g := gb261) (o := .cells #[.string t255, .int .i64 t256, .int .i64 t257, .string t258, .int .i64 t259] 26 (0, 0)) (z_77) hb); have n2_ := Aside0.mk (below_step (z_74) hb); clear BK254; clear BK261; clear HB; have BK254 := n0_; have BK261 := n1_; have HB := n2_; clear n0_ n1_ n2_; (try clear hb); (try clear hb2); (try clear hk); (try clear hi)))
    go_meet
    case rel => exact ⟨_, (true), (z_3), H', ⟨z_23⟩, ⟨z_71⟩, ⟨z_78⟩, ⟨z_74⟩⟩
  ·replace c13 := Bool.eq_false_iff.mpr c13
   subst c13
   rw [if_neg (show ¬ (false = true) by decide)] at H
   have H' := Aside0.mk H
   clear H
   go_wp2_with (first | ((with_reducible refine gate_callee (f := 34) rfl ?_); refine goesL_ (some 22) rfl rfl Try.func34 (z_0) rfl #[.slice A0 l0.length c0] rfl (z_14) ?_; (with_reducible refine (spec_KeptOk.calls k _ _ l0 false _ ?side1 ?side2 A12.out).mono ?_); (case side1 => exact z_75); (case side2 => exact HC0.out); rintro e w18 ⟨rfl, hb⟩; refine ⟨_, rfl, ?_⟩; have n0_ := Aside0.mk (blk_below (g := gb254) (o := .cells #[.string (⟨#[]⟩ : ByteArray), .int .i64 0, .int .i64 0, .string (⟨#[]⟩ : ByteArray), .int .i64 0] 26 (0, 0)) (z_76) hb); have n1_ := Aside0.mk (blk_below (g := gb261) (o := .cells #[.string t255, .int .i64 t256, .int .i64 t257, .string t258, .int .i64 t259] 26 (0, 0)) (z_77) hb); have n2_ := Aside0.mk (below_step (z_74) hb); clear BK254; clear BK261; clear HB; have BK254 := n0_; have BK261 := n1_; have HB := n2_; clear n0_ n1_ n2_; (try clear hb); (try clear hb2); (try clear hk); (try clear hi)))
   go_meet
   case rel => exact ⟨_, (true), (z_3), H', ⟨z_23⟩, ⟨z_71⟩, ⟨z_78⟩, ⟨z_74⟩⟩
 case rest =>
  clear HC6
  try clear c1
  try clear p2
  try clear c3
  try clear c4
  try clear c10
  try clear c13
  try clear c14
  try clear hcz11_0
  try clear hcz11_1
  try clear hcz11_2
  try clear hcz11_3
  try clear hcz11_4
  try clear hfz11_0
  try clear hfz11_1
  try clear hfz11_2
  try clear hfz11_3
  try clear hfz11_4
  obtain ⟨kq, x32_5, rfl, HA, HJ5, BK254, BK261, HB⟩ := hcut
  cases kq with
  | zero => exact absurd HA.out (by simp [spec_KeptAsk.j0])
  | succ kj5 =>
   have H := HA.out
   clear HA
   simp only [spec_KeptAsk.j0] at H
   by_cases c19 : x32_5 = true
   ·subst c19
    rw [if_pos rfl] at H
    obtain ⟨y264, hy264⟩ : ∃ y_ : List (S83), y_ = (([] : List (S83))) := ⟨_, rfl⟩
    replace H : (some (y264, (⟨#[]⟩ : ByteArray), 0, 0, (⟨#[]⟩ : ByteArray), 0, false)) = some (r1, r2, r3, r4, r5, r6, r7) := by first | (rw [hy264]; with_reducible exact H) | (have H2_ := (Option.bind_some _ _).symm.trans H; rw [hy264]; with_reducible exact H2_) | (have H2_ := (Option.bind_some _ _).symm.trans H; with_reducible exact H2_) | with_reducible exact H | (rw [hy264]; exact H) | exact H
    have Ny264 := Aside0.mk hy264
    clear hy264
    simp only [Option.some.injEq, Prod.mk.injEq] at H
    obtain ⟨rfl, rfl, rfl, rfl, rfl, rfl, rfl⟩ := H
    go_wp2_with (first | ((with_reducible refine gate_dst (N := 33) rfl ?_); refine Kd.R_lit k83 _ 83 ?hg (N := 33) ?hd (xs := ([] : List (S83))) (inner := []) (ok := fun _ => True) (okp := fun _ => True) ?hr ?hp (fun _ hk => hk) trivial (Below.refl _ _) (Nat.le_refl _) (z_12) ?_; (case hd => rfl); (case hg => rfl); (case hr => exact z_9); (case hp => exact (Reps.none _ _)); intro v265 w20 ho21 hb hg_ hnew_; clear hg_ hnew_; (first | rw [← Ny264.out] at ho21 | (simp only [Int.reduceToNat] at ho21; rw [← Ny264.out] at ho21)); have n0_ := Aside0.mk (Kd.R_lower ho21 (below_size (z_74))); have n1_ := Aside0.mk (blk_below (g := gb254) (o := .cells #[.string (⟨#[]⟩ : ByteArray), .int .i64 0, .int .i64 0, .string (⟨#[]⟩ : ByteArray), .int .i64 0] 26 (0, 0)) (z_71) hb); have n2_ := Aside0.mk (blk_below (g := gb261) (o := .cells #[.string t255, .int .i64 t256, .int .i64 t257, .string t258, .int .i64 t259] 26 (0, 0)) (z_78) hb); have n3_ := Aside0.mk (below_step (z_74) hb); clear BK254; clear BK261; clear HB; have HO266 := n0_; have BK254 := n1_; have BK261 := n2_; have HB := n3_; clear n0_ n1_ n2_ n3_; clear hb ho21; have hnb22 := NB254_261.out; have hnc22 := NB261_254.out; have hcz23_0 : w20.cell? ⟨gb254, 0, none⟩ = some (.string (⟨#[]⟩ : ByteArray)) := (blk_cell BK254.out 0).trans rfl; have hcz23_1 : w20.cell? ⟨gb254, 1, none⟩ = some (.int .i64 0) := (blk_cell BK254.out 1).trans rfl; have hcz23_2 : w20.cell? ⟨gb254, 2, none⟩ = some (.int .i64 0) := (blk_cell BK254.out 2).trans rfl; have hcz23_3 : w20.cell? ⟨gb254, 3, none⟩ = some (.string (⟨#[]⟩ : ByteArray)) := (blk_cell BK254.out 3).trans rfl; have hcz23_4 : w20.cell? ⟨gb254, 4, none⟩ = some (.int .i64 0) := (blk_cell BK254.out 4).trans rfl; have hfz23_0 := blk_frozen BK254.out 0; have hfz23_1 := blk_frozen BK254.out 1; have hfz23_2 := blk_frozen BK254.out 2; have hfz23_3 := blk_frozen BK254.out 3; have hfz23_4 := blk_frozen BK254.out 4))
    refine bodyPost_ret (results_list (rs := [.tmp 8, .cell 9 26, .tmp 10]) rfl (z_12) (.tmp (.cell gb254 26 #[.string (⟨#[]⟩ : ByteArray), .int .i64 0, .int .i64 0, .string (⟨#[]⟩ : ByteArray), .int .i64 0] (0, 0) _ rfl (by (with_reducible repeat (first | refine blk_drewN ?_ _ | refine blk_drew ?_ | refine blk_alloc ?_ _)); refine blk_put (cs := #[.string (⟨#[]⟩ : ByteArray), .int .i64 0, .int .i64 0, .string (⟨#[]⟩ : ByteArray), .int .i64 0]) ?_ 4 _ rfl; (with_reducible repeat (first | refine blk_drewN ?_ _ | refine blk_drew ?_ | refine blk_alloc ?_ _)); refine blk_put (cs := #[.string (⟨#[]⟩ : ByteArray), .int .i64 0, .int .i64 0, .string (⟨#[]⟩ : ByteArray), .int .i64 0]) ?_ 3 _ rfl; (with_reducible repeat (first | refine blk_drewN ?_ _ | refine blk_drew ?_ | refine blk_alloc ?_ _)); refine blk_put (cs := #[.string (⟨#[]⟩ : ByteArray), .int .i64 0, .int .i64 0, .string (⟨#[]⟩ : ByteArray), .int .i64 0]) ?_ 2 _ rfl; (with_reducible repeat (first | refine blk_drewN ?_ _ | refine blk_drew ?_ | refine blk_alloc ?_ _)); refine blk_put (cs := #[.string (⟨#[]⟩ : ByteArray), .int .i64 0, .int .i64 0, .string (⟨#[]⟩ : ByteArray), .int .i64 0]) ?_ 1 _ rfl; (with_reducible repeat (first | refine blk_drewN ?_ _ | refine blk_drew ?_ | refine blk_alloc ?_ _)); refine blk_put (cs := #[.string (⟨#[]⟩ : ByteArray), .int .i64 0, .int .i64 0, .string (⟨#[]⟩ : ByteArray), .int .i64 0]) ?_ 0 _ rfl; (with_reducible repeat (first | refine blk_drewN ?_ _ | refine blk_drew ?_ | refine blk_alloc ?_ _)); exact BK254.out) Try.underlying26 rfl (z_0) (.tmp .nil)))) rfl ?_
    exact ⟨_, z_13, Kd.Q_of_R (by (with_reducible repeat (first | apply Kd.R_alloc | apply Kd.R_drewN | apply Kd.R_drew)); exact Kd.R_mono (Kd.R_far (p := ⟨gb254, 4, none⟩) (Kd.R_far (p := ⟨gb254, 3, none⟩) (Kd.R_far (p := ⟨gb254, 2, none⟩) (Kd.R_far (p := ⟨gb254, 1, none⟩) (Kd.R_far (p := ⟨gb254, 0, none⟩) (Kd.R_types HO266.out BK254.out (z_5)) (fun _ hk => hk.2) (.string (⟨#[]⟩ : ByteArray))) (fun _ hk => hk.2) (.int .i64 0)) (fun _ hk => hk.2) (.int .i64 0)) (fun _ hk => hk.2) (.string (⟨#[]⟩ : ByteArray))) (fun _ hk => hk.2) (.int .i64 0)) (fun _ hk => trivial)), z_74⟩
   ·replace c19 := Bool.eq_false_iff.mpr c19
    subst c19
    rw [if_neg (show ¬ (false = true) by decide)] at H
    obtain ⟨y267, hy267⟩ : ∃ y_ : List (S83), y_ = (([] : List (S83))) := ⟨_, rfl⟩
    replace H : (spec_KeptAsk.l0 kj5 l0 a2 a3 y267 0 t255 t256 t257 t258 t259) = some (r1, r2, r3, r4, r5, r6, r7) := by first | (rw [hy267]; with_reducible exact H) | (have H2_ := (Option.bind_some _ _).symm.trans H; rw [hy267]; with_reducible exact H2_) | (have H2_ := (Option.bind_some _ _).symm.trans H; with_reducible exact H2_) | with_reducible exact H | (rw [hy267]; exact H) | exact H
    have Ny267 := Aside0.mk hy267
    clear hy267
    have H' := Aside0.mk H
    clear H
    go_wp2_with (first | ((with_reducible refine gate_dst (N := 35) rfl ?_); refine Kd.R_lit k83 _ 83 ?hg (N := 35) ?hd (xs := ([] : List (S83))) (inner := []) (ok := fun _ => True) (okp := fun _ => True) ?hr ?hp (fun _ hk => hk) trivial (Below.refl _ _) (Nat.le_refl _) (z_12) ?_; (case hd => rfl); (case hg => rfl); (case hr => exact z_9); (case hp => exact (Reps.none _ _)); intro v268 w24 ho25 hb hg_ hnew_; clear hg_ hnew_; (first | rw [← Ny267.out] at ho25 | (simp only [Int.reduceToNat] at ho25; rw [← Ny267.out] at ho25)); have n0_ := Aside0.mk (Kd.R_lower ho25 (below_size (z_74))); have n1_ := Aside0.mk (blk_below (g := gb254) (o := .cells #[.string (⟨#[]⟩ : ByteArray), .int .i64 0, .int .i64 0, .string (⟨#[]⟩ : ByteArray), .int .i64 0] 26 (0, 0)) (z_71) hb); have n2_ := Aside0.mk (blk_below (g := gb261) (o := .cells #[.string t255, .int .i64 t256, .int .i64 t257, .string t258, .int .i64 t259] 26 (0, 0)) (z_78) hb); have n3_ := Aside0.mk (below_step (z_74) hb); clear BK254; clear BK261; clear HB; have HO269 := n0_; have BK254 := n1_; have BK261 := n2_; have HB := n3_; clear n0_ n1_ n2_ n3_; clear hb ho25))
    go_loopg [13, 14] kj5 (fun kq v13 v14 w' => ∃ (x13_2 : List (S83)) (x14_2 : Int) (x255000_2 : ByteArray) (x255001_2 : Int) (x255002_2 : Int) (x255003_2 : ByteArray) (x255004_2 : Int), v14 = .int .i64 x14_2 ∧ Aside0 (spec_KeptAsk.l0 kq l0 a2 a3 x13_2 x14_2 t255 t256 t257 t258 t259 = some (r1, r2, r3, r4, r5, r6, r7)) ∧ Aside0 (kq ≤ kj5) ∧ Aside0 (Kd.Q k83 83 w' w.heap.size (fun _ => True) v13 x13_2) ∧ Aside0 (w'.heap[gb254]? = some (.cells #[.string x255000_2, .int .i64 x255001_2, .int .i64 x255002_2, .string x255003_2, .int .i64 x255004_2] 26 (0, 0))) ∧ Aside0 (w'.heap[gb261]? = some (.cells #[.string t255, .int .i64 t256, .int .i64 t257, .string t258, .int .i64 t259] 26 (0, 0))) ∧ Aside0 (Below w.heap.size w w'))
    case atStart => exact ⟨(y267), (0), ((⟨#[]⟩ : ByteArray)), (0), (0), ((⟨#[]⟩ : ByteArray)), (0), (z_3), H', ⟨Nat.le_refl _⟩, ⟨Kd.Q_of_R (by (with_reducible repeat (first | apply Kd.R_alloc | apply Kd.R_drewN | apply Kd.R_drew)); exact HO269.out)⟩, ⟨z_71⟩, ⟨z_78⟩, ⟨z_74⟩⟩
    case round =>
     clear H'
     try clear c1
     try clear c2
     try clear p2
     try clear c3
     try clear c4
     try clear c10
     try clear c13
     try clear c14
     try clear c19
     try clear c22
     try clear hcz11_0
     try clear hcz11_1
     try clear hcz11_2
     try clear hcz11_3
     try clear hcz11_4
     try clear hcz23_0
     try clear hcz23_1
     try clear hcz23_2
     try clear hcz23_3
     try clear hcz23_4
     try clear hfz11_0
     try clear hfz11_1
     try clear hfz11_2
     try clear hfz11_3
     try clear hfz11_4
     try clear hfz23_0
     try clear hfz23_1
     try clear hfz23_2
     try clear hfz23_3
     try clear hfz23_4
     try clear p2
     obtain ⟨x13_2, x14_2, x255000_2, x255001_2, x255002_2, x255003_2, x255004_2, rfl, HA, HK2, HO_13, BK254, BK261, HB⟩ := hrel
     cases gk with
     | zero => exact absurd HA.out (by simp [spec_KeptAsk.l0])
     | succ k2 =>
      have H := HA.out
      clear HA
      simp only [spec_KeptAsk.l0] at H
      by_cases c26 : x14_2 < (l0.length : Int)
      ·rw [if_pos c26] at H
       have c26b0 : decide (x14_2 < (l0.length : Int)) = true := decide_eq_true c26
       clear c26
       have HC27 := Aside0.mk H
       clear H
       go_upto_region 8 with (fail)
       go_cut [58] (fun v58 wc => ∃ (kq : Nat) (x58_26 : Bool), v58 = .bool x58_26 ∧ Aside0 (spec_KeptAsk.j2 kq l0 a2 a3 x13_2 x14_2 x58_26 t255 t256 t257 t258 t259 = some (r1, r2, r3, r4, r5, r6, r7)) ∧ Aside0 (kq ≤ k2) ∧ Aside0 (Kd.Q k83 83 wc w.heap.size (fun _ => True) u13 x13_2) ∧ Aside0 (wc.heap[gb254]? = some (.cells #[.string x255000_2, .int .i64 x255001_2, .int .i64 x255002_2, .string x255003_2, .int .i64 x255004_2] 26 (0, 0))) ∧ Aside0 (wc.heap[gb261]? = some (.cells #[.string t255, .int .i64 t256, .int .i64 t257, .string t258, .int .i64 t259] 26 (0, 0))) ∧ Aside0 (Below w.heap.size w wc))
       case first =>
        have H := HC27.out
        clear HC27
        by_cases c28 : 0 ≤ x14_2
        ·rw [if_pos c28] at H
         have c28b0 : decide (0 ≤ x14_2) = true := decide_eq_true c28
         clear c28
         (first | rw [c28b0] | (simp only [i64_w, i32_w]; rw [c28b0]) | skip)
         by_cases c29 : ((rd_T83 l0 x14_2).f0.f0).toList = a2.toList
         ·rw [if_pos c29] at H
          have c29b0 : (((rd_T83 l0 x14_2).f0.f0).toList == a2.toList) = true := beq_iff_eq.mpr c29
          have c29b1 : (((rd_T83 l0 x14_2).f0.f0).toList != a2.toList) = false := bne_eq_false_iff_eq.mpr c29
          clear c29
          have H' := Aside0.mk H
          clear H
          have p276 : 0 ≤ (x14_2 : Int) := of_decide_eq_true (z_7)
          have q276 : x14_2 < (l0.length : Int) := of_decide_eq_true (z_7)
          obtain ⟨ad276, e276, hx276_0, hx276_1, hx276_2, hx276_3, hx276_4, hx276_5⟩ := at_T83 HR0.out x14_2 p276 q276
          cases e276
          replace hx276_0 := pw_cell_below HB.out hx276_0
          replace hx276_1 := pw_cell_below HB.out hx276_1
          replace hx276_2 := pw_cell_below HB.out hx276_2
          replace hx276_3 := pw_cell_below HB.out hx276_3
          replace hx276_4 := pw_cell_below HB.out hx276_4
          replace hx276_5 := pw_cell_below HB.out hx276_5
          replace p276 := eq_true p276
          replace q276 := eq_true q276
          have p277 : 0 ≤ (x14_2 : Int) := of_decide_eq_true (z_7)
          have q277 : x14_2 < (l0.length : Int) := of_decide_eq_true (z_7)
          obtain ⟨ad277, e277, hx277_0, hx277_1, hx277_2, hx277_3, hx277_4, hx277_5⟩ := at_T83 HR0.out x14_2 p277 q277
          obtain rfl : ad276 = ad277 := (by injection e277)
          replace hx277_0 := pw_cell_below HB.out hx277_0
          replace hx277_1 := pw_cell_below HB.out hx277_1
          replace hx277_2 := pw_cell_below HB.out hx277_2
          replace hx277_3 := pw_cell_below HB.out hx277_3
          replace hx277_4 := pw_cell_below HB.out hx277_4
          replace hx277_5 := pw_cell_below HB.out hx277_5
          replace p277 := eq_true p277
          replace q277 := eq_true q277
          go_wp2
          go_meet
          case rel => exact ⟨_, (decide (((rd_T83 l0 x14_2).f1) > a3)), (z_3), H', ⟨by have := HJ5.out; have := HK2.out; first | omega | exact Nat.le_refl _⟩, ⟨z_79⟩, ⟨z_71⟩, ⟨z_78⟩, ⟨z_74⟩⟩
         ·rw [if_neg c29] at H
          have c29b0 : (((rd_T83 l0 x14_2).f0.f0).toList == a2.toList) = false := beq_eq_false_iff_ne.mpr c29
          have c29b1 : (((rd_T83 l0 x14_2).f0.f0).toList != a2.toList) = true := bne_iff_ne.mpr c29
          have H' := Aside0.mk H
          clear H
          have p276 : 0 ≤ (x14_2 : Int) := of_decide_eq_true (z_7)
          have q276 : x14_2 < (l0.length : Int) := of_decide_eq_true (z_7)
          obtain ⟨ad276, e276, hx276_0, hx276_1, hx276_2, hx276_3, hx276_4, hx276_5⟩ := at_T83 HR0.out x14_2 p276 q276
          cases e276
          replace hx276_0 := pw_cell_below HB.out hx276_0
          replace hx276_1 := pw_cell_below HB.out hx276_1
          replace hx276_2 := pw_cell_below HB.out hx276_2
          replace hx276_3 := pw_cell_below HB.out hx276_3
          replace hx276_4 := pw_cell_below HB.out hx276_4
          replace hx276_5 := pw_cell_below HB.out hx276_5
          replace p276 := eq_true p276
          replace q276 := eq_true q276
          go_wp2
          go_meet
          case rel => exact ⟨_, (false), (z_3), H', ⟨by have := HJ5.out; have := HK2.out; first | omega | exact Nat.le_refl _⟩, ⟨z_79⟩, ⟨z_71⟩, ⟨z_78⟩, ⟨z_74⟩⟩
        ·rw [if_neg c28] at H
         exact absurd H (z_12)
       case rest =>
        clear HC27
        try clear c1
        try clear c2
        try clear p2
        try clear q2
        try clear hx2
        try clear c3
        try clear c4
        try clear c10
        try clear c13
        try clear c14
        try clear c19
        try clear c22
        try clear c26
        try clear c26b0
        try clear p27
        try clear q27
        try clear hx27
        try clear c28
        try clear c28b0
        try clear c29
        try clear c29b0
        try clear c29b1
        try clear hcz11_0
        try clear hcz11_1
        try clear hcz11_2
        try clear hcz11_3
        try clear hcz11_4
        try clear hcz23_0
        try clear hcz23_1
        try clear hcz23_2
        try clear hcz23_3
        try clear hcz23_4
        try clear hfz11_0
        try clear hfz11_1
        try clear hfz11_2
        try clear hfz11_3
        try clear hfz11_4
        try clear hfz23_0
        try clear hfz23_1
        try clear hfz23_2
        try clear hfz23_3
        try clear hfz23_4
        try clear hx276_0
        try clear hx276_1
        try clear hx276_2
        try clear hx276_3
        try clear hx276_4
        try clear hx276_5
        try clear hx277_0
        try clear hx277_1
        try clear hx277_2
        try clear hx277_3
        try clear hx277_4
        try clear hx277_5
        try clear p2
        try clear p276
        try clear p277
        try clear q276
        try clear q277
        obtain ⟨kq, x58_26, rfl, HA, HJ26, HO_13, BK254, BK261, HB⟩ := hcut
        cases kq with
        | zero => exact absurd HA.out (by simp [spec_KeptAsk.j2])
        | succ kj26 =>
         have H := HA.out
         clear HA
         simp only [spec_KeptAsk.j2] at H
         by_cases c30 : x58_26 = true
         ·subst c30
          rw [if_pos rfl] at H
          obtain ⟨y278, hy278⟩ : ∃ y_ : List (S83), y_ = (([] : List (S83))) := ⟨_, rfl⟩
          replace H : (if y278.length + l0.length < 2199023255552 then (if 0 ≤ x14_2 then (if x14_2 < (l0.length : Int) then (some ((y278 ++ l0), (rd_T83 l0 x14_2).f0.f0, (rd_T83 l0 x14_2).f0.f1, (rd_T83 l0 x14_2).f0.f2, (rd_T83 l0 x14_2).f0.f3, (rd_T83 l0 x14_2).f0.f4, true)) else (none)) else (none)) else (none)) = some (r1, r2, r3, r4, r5, r6, r7) := by first | (rw [hy278]; with_reducible exact H) | (have H2_ := (Option.bind_some _ _).symm.trans H; rw [hy278]; with_reducible exact H2_) | (have H2_ := (Option.bind_some _ _).symm.trans H; with_reducible exact H2_) | with_reducible exact H | (rw [hy278]; exact H) | exact H
          have Ny278 := Aside0.mk hy278
          clear hy278
          by_cases c31 : y278.length + l0.length < 2199023255552
          ·rw [if_pos c31] at H
           have LMc31 := Aside0.mk c31
           clear c31
           obtain ⟨y281, hy281⟩ : ∃ y_ : List (S83), y_ = (y278 ++ l0) := ⟨_, rfl⟩
           replace H : (if 0 ≤ x14_2 then (if x14_2 < (l0.length : Int) then (some (y281, (rd_T83 l0 x14_2).f0.f0, (rd_T83 l0 x14_2).f0.f1, (rd_T83 l0 x14_2).f0.f2, (rd_T83 l0 x14_2).f0.f3, (rd_T83 l0 x14_2).f0.f4, true)) else (none)) else (none)) = some (r1, r2, r3, r4, r5, r6, r7) := by first | (rw [hy281]; with_reducible exact H) | (have H2_ := (Option.bind_some _ _).symm.trans H; rw [hy281]; with_reducible exact H2_) | (have H2_ := (Option.bind_some _ _).symm.trans H; with_reducible exact H2_) | with_reducible exact H | (rw [hy281]; exact H) | exact H
           have Ny281 := Aside0.mk hy281
           clear hy281
           by_cases c32 : 0 ≤ x14_2
           ·rw [if_pos c32] at H
            have c32b0 : decide (0 ≤ x14_2) = true := decide_eq_true c32
            clear c32
            by_cases c33 : x14_2 < (l0.length : Int)
            ·rw [if_pos c33] at H
             have c33b0 : decide (x14_2 < (l0.length : Int)) = true := decide_eq_true c33
             clear c33
             simp only [Option.some.injEq, Prod.mk.injEq] at H
             obtain ⟨rfl, rfl, rfl, rfl, rfl, rfl, rfl⟩ := H
             try go_wp2
             have n0_ := Aside0.mk (Kd.Q_drew HO_13.out)
             have n1_ := Aside0.mk (blk_drew BK254.out)
             have n2_ := Aside0.mk (blk_drew BK261.out)
             have n3_ := Aside0.mk (below_drew1 HB.out)
             clear HO_13
             clear BK254
             clear BK261
             clear HB
             have HO_13 := n0_
             have BK254 := n1_
             have BK261 := n2_
             have HB := n3_
             clear n0_ n1_ n2_ n3_
             have p284 : 0 ≤ (x14_2 : Int) := of_decide_eq_true (z_7)
             have q284 : x14_2 < (l0.length : Int) := of_decide_eq_true (z_7)
             obtain ⟨ad284, e284, hx284_0, hx284_1, hx284_2, hx284_3, hx284_4, hx284_5⟩ := at_T83 HR0.out x14_2 p284 q284
             have hw284_5 := hx284_5
             have hw284_4 := hx284_4
             have hw284_3 := hx284_3
             have hw284_2 := hx284_2
             have hw284_1 := hx284_1
             have hw284_0 := hx284_0
             cases e284
             replace hx284_0 := pw_cell_below HB.out hx284_0
             replace hx284_1 := pw_cell_below HB.out hx284_1
             replace hx284_2 := pw_cell_below HB.out hx284_2
             replace hx284_3 := pw_cell_below HB.out hx284_3
             replace hx284_4 := pw_cell_below HB.out hx284_4
             replace hx284_5 := pw_cell_below HB.out hx284_5
             replace p284 := eq_true p284
             replace q284 := eq_true q284
             refine start_ (n := 11) (S := fun w' => w'.cell? (ad284.add ((x14_2).toNat * 6)) = some (.string ((rd_T83 l0 x14_2).f0.f0)) ∧ w'.cell? ⟨(ad284.add ((x14_2).toNat * 6)).block, (ad284.add ((x14_2).toNat * 6)).off + 1, none⟩ = some (.int .i64 ((rd_T83 l0 x14_2).f0.f1)) ∧ w'.cell? ⟨(ad284.add ((x14_2).toNat * 6)).block, (ad284.add ((x14_2).toNat * 6)).off + 2, none⟩ = some (.int .i64 ((rd_T83 l0 x14_2).f0.f2)) ∧ w'.cell? ⟨(ad284.add ((x14_2).toNat * 6)).block, (ad284.add ((x14_2).toNat * 6)).off + 3, none⟩ = some (.string ((rd_T83 l0 x14_2).f0.f3)) ∧ w'.cell? ⟨(ad284.add ((x14_2).toNat * 6)).block, (ad284.add ((x14_2).toNat * 6)).off + 4, none⟩ = some (.int .i64 ((rd_T83 l0 x14_2).f0.f4)) ∧ w'.cell? ⟨(ad284.add ((x14_2).toNat * 6)).block, (ad284.add ((x14_2).toNat * 6)).off + 5, none⟩ = some (.int .i64 ((rd_T83 l0 x14_2).f1))) (ds := []) #[F,F,F,F,F,F,F,F,F,F,F] (z_0) rfl rfl ⟨(pw_cell_below HB.out hw284_0), (pw_cell_below HB.out hw284_1), (pw_cell_below HB.out hw284_2), (pw_cell_below HB.out hw284_3), (pw_cell_below HB.out hw284_4), (pw_cell_below HB.out hw284_5)⟩ (fun hHeld => ?_); refine with_tabW spec_KeptAsk.tab9 spec_KeptAsk.bits9 (fun HT_ HW_ => ?_)
             generalize wc.drew = w34 at HO_13 BK254 BK261 HB hx284_0 hx284_1 hx284_2 hx284_3 hx284_4 hx284_5 hHeld ⊢
             refine pure_ (i := 1) (N := some 60) (v := ?_) (a' := ?_) #[F,T,F,F,F,F,F,F,F,F,F] rfl rfl (any_of HT_.out (z_0)) (fun _ _ _ h => h) (Or.inl ⟨z_1, ?_⟩) ?_ ?_
             rotate_left
             ·intro w'
              go_simp
              with_reducible rfl
             rotate_left
             ·simp only [Act.put, List.setIfInBounds_toArray, List.set_cons_zero, List.set_cons_succ, i64_w, i32_w]
              rfl
             refine pure_ (i := 3) (N := some 62) (v := ?_) (a' := ?_) #[F,T,F,T,F,F,F,F,F,F,F] rfl rfl (any_of HT_.out (z_0)) (fun _ _ _ h => h) (Or.inl ⟨z_1, ?_⟩) ?_ ?_
             rotate_left
             ·intro w'
              go_simp
              with_reducible rfl
             rotate_left
             ·simp only [Act.put, List.setIfInBounds_toArray, List.set_cons_zero, List.set_cons_succ, i64_w, i32_w]
              rfl
             refine pure_ (i := 4) (N := some 63) (v := ?_) (a' := ?_) #[F,T,F,T,T,F,F,F,F,F,F] rfl rfl (any_of HT_.out (z_0)) (fun _ _ _ h => h) (Or.inl ⟨z_1, ?_⟩) ?_ ?_
             rotate_left
             ·intro w'
              go_simp
              with_reducible rfl
             rotate_left
             ·simp only [Act.put, List.setIfInBounds_toArray, List.set_cons_zero, List.set_cons_succ, i64_w, i32_w]
              rfl
             refine pure_ (i := 5) (N := some 64) (v := ?_) (a' := ?_) #[F,T,F,T,T,T,F,F,F,F,F] rfl rfl (any_of HT_.out (z_0)) (fun _ _ _ h => h) (Or.inl ⟨z_1, ?_⟩) ?_ ?_
             rotate_left
             ·intro w'
              go_simp
              with_reducible rfl
             rotate_left
             ·simp only [Act.put, List.setIfInBounds_toArray, List.set_cons_zero, List.set_cons_succ, i64_w, i32_w]
              rfl
             refine pure_ (i := 6) (N := some 65) (v := ?_) (a' := ?_) #[F,T,F,T,T,T,T,F,F,F,F] rfl rfl (any_of HT_.out (z_0)) (fun _ _ _ h => h) (Or.inl ⟨z_1, ?_⟩) ?_ ?_
             rotate_left
             ·intro w'
              go_simp
              with_reducible rfl
             rotate_left
             ·simp only [Act.put, List.setIfInBounds_toArray, List.set_cons_zero, List.set_cons_succ, i64_w, i32_w]
              rfl
             refine take_ (i := 7) (N := some 66) (v := ?_) (a' := ?_) #[F,T,F,T,T,T,T,T,F,F,F] rfl rfl (take_ofW HT_.out HW_.out (z_0)) (fun _ _ _ h => h) (Or.inl ⟨z_1, ?_⟩) hHeld ?_ ?_
             rotate_left
             ·rintro w' ⟨s0, s1, s2, s3, s4, s5⟩
              go_simp
              with_reducible rfl
             rotate_left
             ·simp only [Act.put, List.setIfInBounds_toArray, List.set_cons_zero, List.set_cons_succ, i64_w, i32_w]
              rfl
             refine one_ (i := 0) (N := some 59) #[T,T,F,T,T,T,T,T,F,F,F] rfl rfl (one_of HT_.out (z_0)) (z_5) (fun K hK => ?_)
             refine Kd.R_lit_step k83 _ 83 ?hg (N := 59) ?hd (xs := ([] : List (S83))) (inner := []) (ok := fun _ => True) (okp := fun _ => True) ?hr ?hp (fun _ hk => hk) trivial (Below.refl _ _) (Nat.le_refl _) (z_12) ?_; (case hd => rfl); (case hg => rfl); (case hr => exact z_9); (case hp => exact (Reps.none _ _))
             intro v279 w35 ho36 hb hg_ hnew_
             clear hg_ hnew_
             (first | rw [← Ny278.out] at ho36 | (simp only [Int.reduceToNat] at ho36; rw [← Ny278.out] at ho36))
             have n0_ := Aside0.mk (Kd.Q_elder' (z_79) (Kd.R_base ho36) hb)
             have n1_ := Aside0.mk (Kd.R_lower (Kd.R_new' ho36 (Kd.Q_lt (z_79))) (below_size (z_74)))
             have n2_ := Aside0.mk (blk_below (g := gb254) (o := .cells #[.string x255000_2, .int .i64 x255001_2, .int .i64 x255002_2, .string x255003_2, .int .i64 x255004_2] 26 (0, 0)) (z_71) hb)
             have n3_ := Aside0.mk (blk_below (g := gb261) (o := .cells #[.string t255, .int .i64 t256, .int .i64 t257, .string t258, .int .i64 t259] 26 (0, 0)) (z_78) hb)
             have n4_ := Aside0.mk (below_step (z_74) hb)
             clear HO_13
             clear BK254
             clear BK261
             clear HB
             have HO_13 := n0_
             have HO280 := n1_
             have BK254 := n2_
             have BK261 := n3_
             have HB := n4_
             clear n0_ n1_ n2_ n3_ n4_
             clear hb ho36
             refine hK.out _ _ ⟨(pw_cell_below HB.out hw284_0), (pw_cell_below HB.out hw284_1), (pw_cell_below HB.out hw284_2), (pw_cell_below HB.out hw284_3), (pw_cell_below HB.out hw284_4), (pw_cell_below HB.out hw284_5)⟩ (fun hHeld => ?_)
             clear hK K
             refine norm_ (a' := ?_) ?_ ?_
             rotate_left
             ·show Act.put _ (some 59) _ = _
              simp only [Act.put, List.setIfInBounds_toArray, List.set_cons_zero, List.set_cons_succ, i64_w, i32_w]
              rfl
             refine one_ (i := 2) (N := some 61) #[T,T,T,T,T,T,T,T,F,F,F] rfl rfl (one_of HT_.out (z_0)) (z_5) (fun K hK => ?_)
             refine Kd.R_append_rows_step k83 (w0 := w) w.heap.size (z_1) (.tmp 59) (.tmp 60) 48 83 (.agg #[(.string ⟨#[]⟩), (.int .i64 0), (.int .i64 0), (.string ⟨#[]⟩), (.int .i64 0), (.int .i64 0)]) 64 rfl Try.underlying48 info83 rfl (z_5) (z_6) v279 y278 l0 _ _ _ (fun k_ => some k_ ≠ (u13 : Value).ownBlock) (fun _ => False) rfl rfl ?aO ?aR (fun _ _ h => h) (fun _ h => h.elim) ?aF ?aB ?aS ?aL ?_
             (case aR => exact z_33)
             (case aB => exact z_80)
             (case aF => exact (fun k_ hk => Kd.fresh' (Kd.Q_lt (z_79)) k_ hk))
             (case aO => exact (by (with_reducible repeat (first | apply Kd.R_alloc | apply Kd.R_drewN | apply Kd.R_drew)); exact Kd.R_mono HO280.out (fun _ hk => hk.2)))
             (case aS => exact z_81)
             (case aL => have := LMc31.out; omega)
             intro v282 w37 ho hb hg hat
             rw [← Ny281.out] at ho
             have n0_ := Aside0.mk (Kd.Q_after (ok := (fun _ => True)) (z_79) hg hat)
             have n1_ := Aside0.mk (blk_grown (g := gb254) (o := .cells #[.string x255000_2, .int .i64 x255001_2, .int .i64 x255002_2, .string x255003_2, .int .i64 x255004_2] 26 (0, 0)) (z_71) hg (Kd.R_ne HO280.out BK254.out (z_5)))
             have n2_ := Aside0.mk (blk_grown (g := gb261) (o := .cells #[.string t255, .int .i64 t256, .int .i64 t257, .string t258, .int .i64 t259] 26 (0, 0)) (z_78) hg (Kd.R_ne HO280.out BK261.out (z_5)))
             have n3_ := Aside0.mk (hb)
             have n4_ := Aside0.mk (ho)
             clear HO_13
             clear BK254
             clear BK261
             clear HB
             clear HO280
             have HO_13 := n0_
             have BK254 := n1_
             have BK261 := n2_
             have HB := n3_
             have HO283 := n4_
             clear n0_ n1_ n2_ n3_ n4_
             clear ho hb hg hat
             refine hK.out _ _ ⟨(pw_cell_below HB.out hw284_0), (pw_cell_below HB.out hw284_1), (pw_cell_below HB.out hw284_2), (pw_cell_below HB.out hw284_3), (pw_cell_below HB.out hw284_4), (pw_cell_below HB.out hw284_5)⟩ (fun hHeld => ?_)
             clear hK K
             refine norm_ (a' := ?_) ?_ ?_
             rotate_left
             ·show Act.put _ (some 61) _ = _
              simp only [Act.put, List.setIfInBounds_toArray, List.set_cons_zero, List.set_cons_succ, i64_w, i32_w]
              rfl
             refine pure_ (i := 8) (N := some 8) (v := ?_) (a' := ?_) #[T,T,T,T,T,T,T,T,T,F,F] rfl rfl (any_of HT_.out (z_0)) (fun _ _ _ h => h) (Or.inl ⟨z_1, ?_⟩) ?_ ?_
             rotate_left
             ·intro w'
              go_simp
              with_reducible rfl
             rotate_left
             ·simp only [Act.put, List.setIfInBounds_toArray, List.set_cons_zero, List.set_cons_succ, i64_w, i32_w]
              rfl
             refine one_ (i := 9) (N := none) #[T,T,T,T,T,T,T,T,T,T,F] rfl rfl (one_of HT_.out (z_0)) (z_5) (fun K hK => ?_)
             have hs38 : w37.cell? ⟨gb254, 0, none⟩ = some (.string x255000_2) := (blk_cell BK254.out 0).trans rfl
             have hfs38 := blk_frozen BK254.out 0
             have hns38_1 := NB261_254.out
             have hms38_1 := NB254_261.out
             have hs39 : w37.cell? ⟨gb254, 1, none⟩ = some (.int .i64 x255001_2) := (blk_cell BK254.out 1).trans rfl
             have hfs39 := blk_frozen BK254.out 1
             have hns39_1 := NB261_254.out
             have hms39_1 := NB254_261.out
             have hs40 : w37.cell? ⟨gb254, 2, none⟩ = some (.int .i64 x255002_2) := (blk_cell BK254.out 2).trans rfl
             have hfs40 := blk_frozen BK254.out 2
             have hns40_1 := NB261_254.out
             have hms40_1 := NB254_261.out
             have hs41 : w37.cell? ⟨gb254, 3, none⟩ = some (.string x255003_2) := (blk_cell BK254.out 3).trans rfl
             have hfs41 := blk_frozen BK254.out 3
             have hns41_1 := NB261_254.out
             have hms41_1 := NB254_261.out
             have hs42 : w37.cell? ⟨gb254, 4, none⟩ = some (.int .i64 x255004_2) := (blk_cell BK254.out 4).trans rfl
             have hfs42 := blk_frozen BK254.out 4
             have hns42_1 := NB261_254.out
             have hms42_1 := NB254_261.out
             refine skip_ (w1 := ?_) (z_1) rfl ?_ ?_
             rotate_left
             ·go_simp
              rfl
             refine hK.out _ _ ⟨((cell_far (p := ⟨gb254, _, none⟩) (z_83) _).trans (((cell_far (p := ⟨gb254, _, none⟩) (z_83) _).trans (((cell_far (p := ⟨gb254, _, none⟩) (z_83) _).trans (((cell_far (p := ⟨gb254, _, none⟩) (z_83) _).trans (((cell_far (p := ⟨gb254, _, none⟩) (z_83) _).trans (hHeld.1)))))))))), ((cell_far (p := ⟨gb254, _, none⟩) (z_85) _).trans (((cell_far (p := ⟨gb254, _, none⟩) (z_85) _).trans (((cell_far (p := ⟨gb254, _, none⟩) (z_85) _).trans (((cell_far (p := ⟨gb254, _, none⟩) (z_85) _).trans (((cell_far (p := ⟨gb254, _, none⟩) (z_85) _).trans (hHeld.2.1)))))))))), ((cell_far (p := ⟨gb254, _, none⟩) (z_87) _).trans (((cell_far (p := ⟨gb254, _, none⟩) (z_87) _).trans (((cell_far (p := ⟨gb254, _, none⟩) (z_87) _).trans (((cell_far (p := ⟨gb254, _, none⟩) (z_87) _).trans (((cell_far (p := ⟨gb254, _, none⟩) (z_87) _).trans (hHeld.2.2.1)))))))))), ((cell_far (p := ⟨gb254, _, none⟩) (z_89) _).trans (((cell_far (p := ⟨gb254, _, none⟩) (z_89) _).trans (((cell_far (p := ⟨gb254, _, none⟩) (z_89) _).trans (((cell_far (p := ⟨gb254, _, none⟩) (z_89) _).trans (((cell_far (p := ⟨gb254, _, none⟩) (z_89) _).trans (hHeld.2.2.2.1)))))))))), ((cell_far (p := ⟨gb254, _, none⟩) (z_91) _).trans (((cell_far (p := ⟨gb254, _, none⟩) (z_91) _).trans (((cell_far (p := ⟨gb254, _, none⟩) (z_91) _).trans (((cell_far (p := ⟨gb254, _, none⟩) (z_91) _).trans (((cell_far (p := ⟨gb254, _, none⟩) (z_91) _).trans (hHeld.2.2.2.2.1)))))))))), ((cell_far (p := ⟨gb254, _, none⟩) (z_93) _).trans (((cell_far (p := ⟨gb254, _, none⟩) (z_93) _).trans (((cell_far (p := ⟨gb254, _, none⟩) (z_93) _).trans (((cell_far (p := ⟨gb254, _, none⟩) (z_93) _).trans (((cell_far (p := ⟨gb254, _, none⟩) (z_93) _).trans (hHeld.2.2.2.2.2))))))))))⟩ (fun hHeld => ?_)
             clear hK K
             refine pure_ (i := 10) (N := some 10) (v := ?_) (a' := ?_) #[T,T,T,T,T,T,T,T,T,T,T] rfl rfl (any_of HT_.out (z_0)) (fun _ _ _ h => h) (Or.inl ⟨z_1, ?_⟩) ?_ ?_
             rotate_left
             ·intro w'
              go_simp
              with_reducible rfl
             rotate_left
             ·simp only [Act.put, List.setIfInBounds_toArray, List.set_cons_zero, List.set_cons_succ, i64_w, i32_w]
              rfl
             refine done_ (done_of HT_.out (z_0)) ?_
             try go_wp2
             refine bodyPost_ret (results_list (rs := [.tmp 8, .cell 9 26, .tmp 10]) rfl (z_12) (.tmp (.cell gb254 26 #[.string ((rd_T83 l0 x14_2).f0.f0), .int .i64 ((rd_T83 l0 x14_2).f0.f1), .int .i64 ((rd_T83 l0 x14_2).f0.f2), .string ((rd_T83 l0 x14_2).f0.f3), .int .i64 ((rd_T83 l0 x14_2).f0.f4)] (0, 0) _ rfl (by (with_reducible repeat (first | refine blk_drewN ?_ _ | refine blk_drew ?_ | refine blk_alloc ?_ _)); refine blk_put (cs := #[.string ((rd_T83 l0 x14_2).f0.f0), .int .i64 ((rd_T83 l0 x14_2).f0.f1), .int .i64 ((rd_T83 l0 x14_2).f0.f2), .string ((rd_T83 l0 x14_2).f0.f3), .int .i64 x255004_2]) ?_ 4 _ rfl; (with_reducible repeat (first | refine blk_drewN ?_ _ | refine blk_drew ?_ | refine blk_alloc ?_ _)); refine blk_put (cs := #[.string ((rd_T83 l0 x14_2).f0.f0), .int .i64 ((rd_T83 l0 x14_2).f0.f1), .int .i64 ((rd_T83 l0 x14_2).f0.f2), .string x255003_2, .int .i64 x255004_2]) ?_ 3 _ rfl; (with_reducible repeat (first | refine blk_drewN ?_ _ | refine blk_drew ?_ | refine blk_alloc ?_ _)); refine blk_put (cs := #[.string ((rd_T83 l0 x14_2).f0.f0), .int .i64 ((rd_T83 l0 x14_2).f0.f1), .int .i64 x255002_2, .string x255003_2, .int .i64 x255004_2]) ?_ 2 _ rfl; (with_reducible repeat (first | refine blk_drewN ?_ _ | refine blk_drew ?_ | refine blk_alloc ?_ _)); refine blk_put (cs := #[.string ((rd_T83 l0 x14_2).f0.f0), .int .i64 x255001_2, .int .i64 x255002_2, .string x255003_2, .int .i64 x255004_2]) ?_ 1 _ rfl; (with_reducible repeat (first | refine blk_drewN ?_ _ | refine blk_drew ?_ | refine blk_alloc ?_ _)); refine blk_put (cs := #[.string x255000_2, .int .i64 x255001_2, .int .i64 x255002_2, .string x255003_2, .int .i64 x255004_2]) ?_ 0 _ rfl; (with_reducible repeat (first | refine blk_drewN ?_ _ | refine blk_drew ?_ | refine blk_alloc ?_ _)); exact BK254.out) Try.underlying26 rfl (z_0) (.tmp .nil)))) rfl ?_
             exact ⟨_, z_13, Kd.Q_of_R (by (with_reducible repeat (first | apply Kd.R_alloc | apply Kd.R_drewN | apply Kd.R_drew)); exact Kd.R_mono (Kd.R_far (p := ⟨gb254, 4, none⟩) (Kd.R_far (p := ⟨gb254, 3, none⟩) (Kd.R_far (p := ⟨gb254, 2, none⟩) (Kd.R_far (p := ⟨gb254, 1, none⟩) (Kd.R_far (p := ⟨gb254, 0, none⟩) (Kd.R_types HO283.out BK254.out (z_5)) (fun _ hk => hk.2) (.string ((rd_T83 l0 x14_2).f0.f0))) (fun _ hk => hk.2) (.int .i64 ((rd_T83 l0 x14_2).f0.f1))) (fun _ hk => hk.2) (.int .i64 ((rd_T83 l0 x14_2).f0.f2))) (fun _ hk => hk.2) (.string ((rd_T83 l0 x14_2).f0.f3))) (fun _ hk => hk.2) (.int .i64 ((rd_T83 l0 x14_2).f0.f4))) (fun _ hk => trivial)), z_74⟩
            ·rw [if_neg c33] at H
             exact absurd H (z_12)
           ·rw [if_neg c32] at H
            exact absurd H (z_12)
          ·rw [if_neg c31] at H
           exact absurd H (z_12)
         ·replace c30 := Bool.eq_false_iff.mpr c30
          subst c30
          rw [if_neg (show ¬ (false = true) by decide)] at H
          by_cases c43 : 0 ≤ x14_2
          ·rw [if_pos c43] at H
           have c43b0 : decide (0 ≤ x14_2) = true := decide_eq_true c43
           clear c43
           by_cases c44 : x14_2 < (l0.length : Int)
           ·rw [if_pos c44] at H
            have c44b0 : decide (x14_2 < (l0.length : Int)) = true := decide_eq_true c44
            clear c44
            by_cases c45 : ((rd_T83 l0 x14_2).f0.f0).toList = a2.toList
            ·rw [if_pos c45] at H
             have c45b0 : (((rd_T83 l0 x14_2).f0.f0).toList == a2.toList) = true := beq_iff_eq.mpr c45
             have c45b1 : (((rd_T83 l0 x14_2).f0.f0).toList != a2.toList) = false := bne_eq_false_iff_eq.mpr c45
             clear c45
             have H' := Aside0.mk H
             clear H
             have p285 : 0 ≤ (x14_2 : Int) := of_decide_eq_true (z_7)
             have q285 : x14_2 < (l0.length : Int) := of_decide_eq_true (z_7)
             obtain ⟨ad285, e285, hx285_0, hx285_1, hx285_2, hx285_3, hx285_4, hx285_5⟩ := at_T83 HR0.out x14_2 p285 q285
             cases e285
             replace hx285_0 := pw_cell_below HB.out hx285_0
             replace hx285_1 := pw_cell_below HB.out hx285_1
             replace hx285_2 := pw_cell_below HB.out hx285_2
             replace hx285_3 := pw_cell_below HB.out hx285_3
             replace hx285_4 := pw_cell_below HB.out hx285_4
             replace hx285_5 := pw_cell_below HB.out hx285_5
             replace p285 := eq_true p285
             replace q285 := eq_true q285
             go_wp2
             go_roundg kj26
             case measure => have := HJ5.out; have := HK2.out; have := HJ26.out; omega
             case rel => exact ⟨(x13_2), (wrap64 (x14_2 + 1)), (x255000_2), (x255001_2), (x255002_2), (x255003_2), (x255004_2), (z_3), H', ⟨by have := HJ5.out; have := HK2.out; have := HJ26.out; omega⟩, ⟨z_79⟩, ⟨z_71⟩, ⟨z_78⟩, ⟨z_74⟩⟩
            ·rw [if_neg c45] at H
             have c45b0 : (((rd_T83 l0 x14_2).f0.f0).toList == a2.toList) = false := beq_eq_false_iff_ne.mpr c45
             have c45b1 : (((rd_T83 l0 x14_2).f0.f0).toList != a2.toList) = true := bne_iff_ne.mpr c45
             by_cases c46 : x13_2.length < 2199023255552
             ·rw [if_pos c46] at H
              have LMc46 := Aside0.mk c46
              clear c46
              obtain ⟨y287, hy287⟩ : ∃ y_ : List (S83), y_ = (x13_2 ++ [(⟨(⟨(rd_T83 l0 x14_2).f0.f0, (rd_T83 l0 x14_2).f0.f1, (rd_T83 l0 x14_2).f0.f2, (rd_T83 l0 x14_2).f0.f3, (rd_T83 l0 x14_2).f0.f4⟩ : S26), (rd_T83 l0 x14_2).f1⟩ : S83)]) := ⟨_, rfl⟩
              replace H : (spec_KeptAsk.l0 kj26 l0 a2 a3 y287 (wrap64 (x14_2 + 1)) t255 t256 t257 t258 t259) = some (r1, r2, r3, r4, r5, r6, r7) := by first | (rw [hy287]; with_reducible exact H) | (have H2_ := (Option.bind_some _ _).symm.trans H; rw [hy287]; with_reducible exact H2_) | (have H2_ := (Option.bind_some _ _).symm.trans H; with_reducible exact H2_) | with_reducible exact H | (rw [hy287]; exact H) | exact H
              have Ny287 := Aside0.mk hy287
              clear hy287
              have H' := Aside0.mk H
              clear H
              have p285 : 0 ≤ (x14_2 : Int) := of_decide_eq_true (z_7)
              have q285 : x14_2 < (l0.length : Int) := of_decide_eq_true (z_7)
              obtain ⟨ad285, e285, hx285_0, hx285_1, hx285_2, hx285_3, hx285_4, hx285_5⟩ := at_T83 HR0.out x14_2 p285 q285
              cases e285
              replace hx285_0 := pw_cell_below HB.out hx285_0
              replace hx285_1 := pw_cell_below HB.out hx285_1
              replace hx285_2 := pw_cell_below HB.out hx285_2
              replace hx285_3 := pw_cell_below HB.out hx285_3
              replace hx285_4 := pw_cell_below HB.out hx285_4
              replace hx285_5 := pw_cell_below HB.out hx285_5
              replace p285 := eq_true p285
              replace q285 := eq_true q285
              have p286 : 0 ≤ (x14_2 : Int) := of_decide_eq_true (z_7)
              have q286 : x14_2 < (l0.length : Int) := of_decide_eq_true (z_7)
              obtain ⟨ad286, e286, hx286_0, hx286_1, hx286_2, hx286_3, hx286_4, hx286_5⟩ := at_T83 HR0.out x14_2 p286 q286
              obtain rfl : ad285 = ad286 := (by injection e286)
              replace hx286_0 := pw_cell_below HB.out hx286_0
              replace hx286_1 := pw_cell_below HB.out hx286_1
              replace hx286_2 := pw_cell_below HB.out hx286_2
              replace hx286_3 := pw_cell_below HB.out hx286_3
              replace hx286_4 := pw_cell_below HB.out hx286_4
              replace hx286_5 := pw_cell_below HB.out hx286_5
              replace p286 := eq_true p286
              replace q286 := eq_true q286
              go_wp2_with (first | ((with_reducible refine gate_builtin (b := .append) (xs := #[.tmp 75, .tmp 80]) rfl ?_); at_builtin; refine Kd.Q_append k83 (w0 := w) w.heap.size rfl (.tmp 75) (.tmp 80) 48 83 (.agg #[(.string ⟨#[]⟩), (.int .i64 0), (.int .i64 0), (.string ⟨#[]⟩), (.int .i64 0), (.int .i64 0)]) 64 rfl Try.underlying48 info83 rfl (z_5) (z_6) u13 x13_2 (⟨(⟨(rd_T83 l0 x14_2).f0.f0, (rd_T83 l0 x14_2).f0.f1, (rd_T83 l0 x14_2).f0.f2, (rd_T83 l0 x14_2).f0.f3, (rd_T83 l0 x14_2).f0.f4⟩ : S26), (rd_T83 l0 x14_2).f1⟩ : S83) [.string ((rd_T83 l0 x14_2).f0.f0), .int .i64 ((rd_T83 l0 x14_2).f0.f1), .int .i64 ((rd_T83 l0 x14_2).f0.f2), .string ((rd_T83 l0 x14_2).f0.f3), .int .i64 ((rd_T83 l0 x14_2).f0.f4), .int .i64 ((rd_T83 l0 x14_2).f1)] (fun _ => True) (fun _ => False) rfl rfl ?aP (fun _ hk => hk.elim) ?aF ?aO ?aB ?aS ?aL ?_; (case aP => exact k83_mkM _ _ _ (⟨(⟨(rd_T83 l0 x14_2).f0.f0, (rd_T83 l0 x14_2).f0.f1, (rd_T83 l0 x14_2).f0.f2, (rd_T83 l0 x14_2).f0.f3, (rd_T83 l0 x14_2).f0.f4⟩ : S26), (rd_T83 l0 x14_2).f1⟩ : S83)); (case aB => exact z_80); (case aF => exact z_34); (case aO => exact z_94); (case aS => exact z_81); (case aL => have := LMc46.out; omega); intro v288 w47 ho hb hg hat; rw [← Ny287.out] at ho; have n0_ := Aside0.mk (blk_grown (g := gb254) (o := .cells #[.string x255000_2, .int .i64 x255001_2, .int .i64 x255002_2, .string x255003_2, .int .i64 x255004_2] 26 (0, 0)) (z_71) hg (Kd.Q_ne HO_13.out BK254.out (z_5))); have n1_ := Aside0.mk (blk_grown (g := gb261) (o := .cells #[.string t255, .int .i64 t256, .int .i64 t257, .string t258, .int .i64 t259] 26 (0, 0)) (z_78) hg (Kd.Q_ne HO_13.out BK261.out (z_5))); have n2_ := Aside0.mk (hb); have n3_ := Aside0.mk (ho); clear BK254; clear BK261; clear HB; clear HO_13; have BK254 := n0_; have BK261 := n1_; have HB := n2_; have HO289 := n3_; clear n0_ n1_ n2_ n3_; clear ho hb hg hat))
              go_roundg kj26
              case measure => have := HJ5.out; have := HK2.out; have := HJ26.out; omega
              case rel => exact ⟨(y287), (wrap64 (x14_2 + 1)), (x255000_2), (x255001_2), (x255002_2), (x255003_2), (x255004_2), (z_3), H', ⟨by have := HJ5.out; have := HK2.out; have := HJ26.out; omega⟩, ⟨by (with_reducible repeat (first | apply Kd.Q_alloc | apply Kd.Q_drewN | apply Kd.Q_drew)); exact HO289.out⟩, ⟨z_71⟩, ⟨z_78⟩, ⟨z_74⟩⟩
             ·rw [if_neg c46] at H
              exact absurd H (z_12)
           ·rw [if_neg c44] at H
            exact absurd H (z_12)
          ·rw [if_neg c43] at H
           exact absurd H (z_12)
      ·rw [if_neg c26] at H
       have c26b0 : decide (x14_2 < (l0.length : Int)) = false := decide_eq_false c26
       clear c26
       by_cases c48 : x13_2.length < 2199023255552
       ·rw [if_pos c48] at H
        have LMc48 := Aside0.mk c48
        clear c48
        obtain ⟨y270, hy270⟩ : ∃ y_ : List (S83), y_ = (x13_2 ++ [(⟨(⟨t255, t256, t257, t258, t259⟩ : S26), wrap64 (a3 + t259)⟩ : S83)]) := ⟨_, rfl⟩
        replace H : (if (y270.length : Int) > 5 then (if 1 ≤ (y270.length : Int) then (some ((y270.drop (1 : Int).toNat), t255, t256, t257, t258, t259, false)) else (none)) else (some (y270, t255, t256, t257, t258, t259, false))) = some (r1, r2, r3, r4, r5, r6, r7) := by first | (rw [hy270]; with_reducible exact H) | (have H2_ := (Option.bind_some _ _).symm.trans H; rw [hy270]; with_reducible exact H2_) | (have H2_ := (Option.bind_some _ _).symm.trans H; with_reducible exact H2_) | with_reducible exact H | (rw [hy270]; exact H) | exact H
        have Ny270 := Aside0.mk hy270
        clear hy270
        by_cases c49 : (y270.length : Int) > 5
        ·rw [if_pos c49] at H
         have c49b0 : decide (5 < (y270.length : Int)) = true := decide_eq_true c49
         have c49b1 : decide (5 < y270.length) = true := decide_eq_true (z_6)
         clear c49
         by_cases c50 : 1 ≤ (y270.length : Int)
         ·rw [if_pos c50] at H
          have c50b0 := eq_true c50
          have c50b1 : decide (1 ≤ (y270.length : Int)) = true := decide_eq_true c50
          clear c50
          obtain ⟨y273, hy273⟩ : ∃ y_ : List (S83), y_ = (y270.drop (1 : Int).toNat) := ⟨_, rfl⟩
          replace H : (some (y273, t255, t256, t257, t258, t259, false)) = some (r1, r2, r3, r4, r5, r6, r7) := by first | (rw [hy273]; with_reducible exact H) | (have H2_ := (Option.bind_some _ _).symm.trans H; rw [hy273]; with_reducible exact H2_) | (have H2_ := (Option.bind_some _ _).symm.trans H; with_reducible exact H2_) | with_reducible exact H | (rw [hy273]; exact H) | exact H
          have Ny273 := Aside0.mk hy273
          clear hy273
          simp only [Option.some.injEq, Prod.mk.injEq] at H
          obtain ⟨rfl, rfl, rfl, rfl, rfl, rfl, rfl⟩ := H
          have hnb51 := NB261_254.out
          have hnc51 := NB254_261.out
          have hcz52_0 : wr.cell? ⟨gb261, 0, none⟩ = some (.string t255) := (blk_cell BK261.out 0).trans rfl
          have hcz52_1 : wr.cell? ⟨gb261, 1, none⟩ = some (.int .i64 t256) := (blk_cell BK261.out 1).trans rfl
          have hcz52_2 : wr.cell? ⟨gb261, 2, none⟩ = some (.int .i64 t257) := (blk_cell BK261.out 2).trans rfl
          have hcz52_3 : wr.cell? ⟨gb261, 3, none⟩ = some (.string t258) := (blk_cell BK261.out 3).trans rfl
          have hcz52_4 : wr.cell? ⟨gb261, 4, none⟩ = some (.int .i64 t259) := (blk_cell BK261.out 4).trans rfl
          have hfz52_0 := blk_frozen BK261.out 0
          have hfz52_1 := blk_frozen BK261.out 1
          have hfz52_2 := blk_frozen BK261.out 2
          have hfz52_3 := blk_frozen BK261.out 3
          have hfz52_4 := blk_frozen BK261.out 4
          try go_wp2_with (first | ((with_reducible refine gate_builtin (b := .append) (xs := #[.tmp 82, .tmp 89]) rfl ?_); at_builtin; refine Kd.Q_append k83 (w0 := w) w.heap.size rfl (.tmp 82) (.tmp 89) 48 83 (.agg #[(.string ⟨#[]⟩), (.int .i64 0), (.int .i64 0), (.string ⟨#[]⟩), (.int .i64 0), (.int .i64 0)]) 64 rfl Try.underlying48 info83 rfl (z_5) (z_6) u13 x13_2 (⟨(⟨t255, t256, t257, t258, t259⟩ : S26), wrap64 (a3 + t259)⟩ : S83) [.string t255, .int .i64 t256, .int .i64 t257, .string t258, .int .i64 t259, .int .i64 (wrap64 (a3 + t259))] (fun _ => True) (fun _ => False) rfl rfl ?aP (fun _ hk => hk.elim) ?aF ?aO ?aB ?aS ?aL ?_; (case aP => exact k83_mkM _ _ _ (⟨(⟨t255, t256, t257, t258, t259⟩ : S26), wrap64 (a3 + t259)⟩ : S83)); (case aB => exact z_80); (case aF => exact z_34); (case aO => exact z_94); (case aS => exact z_81); (case aL => have := LMc48.out; omega); intro v271 w53 ho hb hg hat; rw [← Ny270.out] at ho; have n0_ := Aside0.mk (blk_grown (g := gb254) (o := .cells #[.string x255000_2, .int .i64 x255001_2, .int .i64 x255002_2, .string x255003_2, .int .i64 x255004_2] 26 (0, 0)) (z_71) hg (Kd.Q_ne HO_13.out BK254.out (z_5))); have n1_ := Aside0.mk (blk_grown (g := gb261) (o := .cells #[.string t255, .int .i64 t256, .int .i64 t257, .string t258, .int .i64 t259] 26 (0, 0)) (z_78) hg (Kd.Q_ne HO_13.out BK261.out (z_5))); have n2_ := Aside0.mk (hb); have n3_ := Aside0.mk (ho); clear BK254; clear BK261; clear HB; clear HO_13; have BK254 := n0_; have BK261 := n1_; have HB := n2_; have HO272 := n3_; clear n0_ n1_ n2_ n3_; clear ho hb hg hat; obtain ⟨Ao54, co54, eo54, _⟩ := Kd.Q_slice HO272.out; subst eo54; have q55 : (1 : Int) ≤ ((y270.length : Int) : Int) := of_decide_eq_true (z_7); obtain ⟨i055, hi055, _, hsz55, _⟩ := info_parts info83; have hcut55 := cut_from (P := Try.prog) 48 83 .i64 Try.underlying48 hi055 6 hsz55 Ao54 y270.length co54 1 (z_6) q55; have hr55 := Kd.Q_drop (k := (1 : Int).toNat) HO272.out (z_6); obtain ⟨A55, hA55⟩ : ∃ A1, A1 = (if co54 = (1 : Int).toNat then Ao54 else (Ao54 : Option Addr).map (·.add ((1 : Int).toNat * 6))) := ⟨_, rfl⟩; obtain ⟨c55, hc55⟩ : ∃ c1, c1 = co54 - (1 : Int).toNat := ⟨_, rfl⟩; have hy55 : y273.length = y270.length - (1 : Int).toNat := (by rw [Ny273.out, List.length_drop]); rw [← Ny273.out] at hr55; rw [← hy55, ← hA55, ← hc55] at hcut55; replace hr55 : Kd.Q k83 83 w53 w.heap.size (fun _ => True) (.slice A55 y273.length c55) y273 := (by rw [hA55, hc55, hy55]; exact hr55); have HE55 : Aside0 ((Value.slice A55 y273.length c55).ownBlock = (.slice Ao54 y270.length co54 : Value).ownBlock) := ⟨by rw [hA55]; split <;> (cases (Ao54 : Option Addr) <;> rfl)⟩; clear hy55 hi055 hsz55 HO272 hA55 hc55; have HO275 := Aside0.mk hr55; clear hr55; replace q55 := eq_true q55))
          have n0_ := Aside0.mk (Kd.Q_drew HO275.out)
          have n1_ := Aside0.mk (blk_drew BK254.out)
          have n2_ := Aside0.mk (blk_drew BK261.out)
          have n3_ := Aside0.mk (below_drew1 HB.out)
          clear HO275
          clear BK254
          clear BK261
          clear HB
          have HO275 := n0_
          have BK254 := n1_
          have BK261 := n2_
          have HB := n3_
          clear n0_ n1_ n2_ n3_
          refine start_ (n := 5) (S := fun w' => w'.cell? ⟨gb261, 0, none⟩ = some (.string t255) ∧ w'.cell? ⟨gb261, 1, none⟩ = some (.int .i64 t256) ∧ w'.cell? ⟨gb261, 2, none⟩ = some (.int .i64 t257) ∧ w'.cell? ⟨gb261, 3, none⟩ = some (.string t258) ∧ w'.cell? ⟨gb261, 4, none⟩ = some (.int .i64 t259)) (ds := []) #[F,F,F,F,F] (z_0) rfl rfl ⟨(blk_cell BK261.out 0).trans rfl, (blk_cell BK261.out 1).trans rfl, (blk_cell BK261.out 2).trans rfl, (blk_cell BK261.out 3).trans rfl, (blk_cell BK261.out 4).trans rfl⟩ (fun hHeld => ?_)
          generalize w53.drew = w56 at HO275 BK254 BK261 HB hHeld ⊢
          refine pure_ (i := 0) (N := some 96) (v := ?_) (a' := ?_) #[T,F,F,F,F] rfl rfl (z_0) (fun _ _ _ h => h) (Or.inl ⟨z_1, ?_⟩) ?_ ?_
          rotate_left
          ·intro w'
           go_simp
           with_reducible rfl
          rotate_left
          ·simp only [Act.put, List.setIfInBounds_toArray, List.set_cons_zero, List.set_cons_succ, i64_w, i32_w]
           rfl
          refine pure_ (i := 2) (N := some 8) (v := ?_) (a' := ?_) #[T,F,T,F,F] rfl rfl (z_0) (fun _ _ _ h => h) (Or.inl ⟨z_1, ?_⟩) ?_ ?_
          rotate_left
          ·intro w'
           go_simp
           with_reducible rfl
          rotate_left
          ·simp only [Act.put, List.setIfInBounds_toArray, List.set_cons_zero, List.set_cons_succ, i64_w, i32_w]
           rfl
          refine take_ (i := 1) (N := some 97) (v := ?_) (a' := ?_) #[T,T,T,F,F] rfl rfl (z_0) (fun _ _ _ h => h) (Or.inl ⟨z_1, ?_⟩) hHeld ?_ ?_
          rotate_left
          ·rintro w' ⟨s0, s1, s2, s3, s4⟩
           go_simp
           with_reducible rfl
          rotate_left
          ·simp only [Act.put, List.setIfInBounds_toArray, List.set_cons_zero, List.set_cons_succ, i64_w, i32_w]
           rfl
          refine one_ (i := 3) (N := none) #[T,T,T,T,F] rfl rfl (z_0) (z_5) (fun K hK => ?_)
          have hs57 : w56.cell? ⟨gb254, 0, none⟩ = some (.string x255000_2) := (blk_cell BK254.out 0).trans rfl
          have hfs57 := blk_frozen BK254.out 0
          have hns57_1 := NB261_254.out
          have hms57_1 := NB254_261.out
          have hs58 : w56.cell? ⟨gb254, 1, none⟩ = some (.int .i64 x255001_2) := (blk_cell BK254.out 1).trans rfl
          have hfs58 := blk_frozen BK254.out 1
          have hns58_1 := NB261_254.out
          have hms58_1 := NB254_261.out
          have hs59 : w56.cell? ⟨gb254, 2, none⟩ = some (.int .i64 x255002_2) := (blk_cell BK254.out 2).trans rfl
          have hfs59 := blk_frozen BK254.out 2
          have hns59_1 := NB261_254.out
          have hms59_1 := NB254_261.out
          have hs60 : w56.cell? ⟨gb254, 3, none⟩ = some (.string x255003_2) := (blk_cell BK254.out 3).trans rfl
          have hfs60 := blk_frozen BK254.out 3
          have hns60_1 := NB261_254.out
          have hms60_1 := NB254_261.out
          have hs61 : w56.cell? ⟨gb254, 4, none⟩ = some (.int .i64 x255004_2) := (blk_cell BK254.out 4).trans rfl
          have hfs61 := blk_frozen BK254.out 4
          have hns61_1 := NB261_254.out
          have hms61_1 := NB254_261.out
          refine skip_ (w1 := ?_) (z_1) rfl ?_ ?_
          rotate_left
          ·go_simp
           rfl
          refine hK.out _ _ ⟨((cell_far (p := ⟨gb254, _, none⟩) NB261_254.out _).trans (((cell_far (p := ⟨gb254, _, none⟩) NB261_254.out _).trans (((cell_far (p := ⟨gb254, _, none⟩) NB261_254.out _).trans (((cell_far (p := ⟨gb254, _, none⟩) NB261_254.out _).trans (((cell_far (p := ⟨gb254, _, none⟩) NB261_254.out _).trans (hHeld.1)))))))))), ((cell_far (p := ⟨gb254, _, none⟩) NB261_254.out _).trans (((cell_far (p := ⟨gb254, _, none⟩) NB261_254.out _).trans (((cell_far (p := ⟨gb254, _, none⟩) NB261_254.out _).trans (((cell_far (p := ⟨gb254, _, none⟩) NB261_254.out _).trans (((cell_far (p := ⟨gb254, _, none⟩) NB261_254.out _).trans (hHeld.2.1)))))))))), ((cell_far (p := ⟨gb254, _, none⟩) NB261_254.out _).trans (((cell_far (p := ⟨gb254, _, none⟩) NB261_254.out _).trans (((cell_far (p := ⟨gb254, _, none⟩) NB261_254.out _).trans (((cell_far (p := ⟨gb254, _, none⟩) NB261_254.out _).trans (((cell_far (p := ⟨gb254, _, none⟩) NB261_254.out _).trans (hHeld.2.2.1)))))))))), ((cell_far (p := ⟨gb254, _, none⟩) NB261_254.out _).trans (((cell_far (p := ⟨gb254, _, none⟩) NB261_254.out _).trans (((cell_far (p := ⟨gb254, _, none⟩) NB261_254.out _).trans (((cell_far (p := ⟨gb254, _, none⟩) NB261_254.out _).trans (((cell_far (p := ⟨gb254, _, none⟩) NB261_254.out _).trans (hHeld.2.2.2.1)))))))))), ((cell_far (p := ⟨gb254, _, none⟩) NB261_254.out _).trans (((cell_far (p := ⟨gb254, _, none⟩) NB261_254.out _).trans (((cell_far (p := ⟨gb254, _, none⟩) NB261_254.out _).trans (((cell_far (p := ⟨gb254, _, none⟩) NB261_254.out _).trans (((cell_far (p := ⟨gb254, _, none⟩) NB261_254.out _).trans (hHeld.2.2.2.2))))))))))⟩ (fun hHeld => ?_)
          clear hK K
          refine pure_ (i := 4) (N := some 10) (v := ?_) (a' := ?_) #[T,T,T,T,T] rfl rfl (z_0) (fun _ _ _ h => h) (Or.inl ⟨z_1, ?_⟩) ?_ ?_
          rotate_left
          ·intro w'
           go_simp
           with_reducible rfl
          rotate_left
          ·simp only [Act.put, List.setIfInBounds_toArray, List.set_cons_zero, List.set_cons_succ, i64_w, i32_w]
           rfl
          refine done_ (z_0) ?_
          try go_wp2
          refine bodyPost_ret (results_list (rs := [.tmp 8, .cell 9 26, .tmp 10]) rfl (z_12) (.tmp (.cell gb254 26 #[.string t255, .int .i64 t256, .int .i64 t257, .string t258, .int .i64 t259] (0, 0) _ rfl (z_95) Try.underlying26 rfl (z_0) (.tmp .nil)))) rfl ?_
          exact ⟨_, z_13, by (with_reducible repeat (first | apply Kd.Q_alloc | apply Kd.Q_drewN | apply Kd.Q_drew)); exact Kd.Q_mono (Kd.Q_far (p := ⟨gb254, 4, none⟩) (Kd.Q_far (p := ⟨gb254, 3, none⟩) (Kd.Q_far (p := ⟨gb254, 2, none⟩) (Kd.Q_far (p := ⟨gb254, 1, none⟩) (Kd.Q_far (p := ⟨gb254, 0, none⟩) (Kd.Q_types HO275.out BK254.out (z_5)) (fun _ hk => hk.2) (.string t255)) (fun _ hk => hk.2) (.int .i64 t256)) (fun _ hk => hk.2) (.int .i64 t257)) (fun _ hk => hk.2) (.string t258)) (fun _ hk => hk.2) (.int .i64 t259)) (fun _ hk => trivial), z_74⟩
         ·rw [if_neg c50] at H
          exact absurd H (z_12)
        ·rw [if_neg c49] at H
         have c49b0 : decide (5 < (y270.length : Int)) = false := decide_eq_false c49
         have c49b1 : decide (5 < y270.length) = false := decide_eq_false (z_6)
         clear c49
         simp only [Option.some.injEq, Prod.mk.injEq] at H
         obtain ⟨rfl, rfl, rfl, rfl, rfl, rfl, rfl⟩ := H
         have hnb62 := NB261_254.out
         have hnc62 := NB254_261.out
         have hcz63_0 : wr.cell? ⟨gb261, 0, none⟩ = some (.string t255) := (blk_cell BK261.out 0).trans rfl
         have hcz63_1 : wr.cell? ⟨gb261, 1, none⟩ = some (.int .i64 t256) := (blk_cell BK261.out 1).trans rfl
         have hcz63_2 : wr.cell? ⟨gb261, 2, none⟩ = some (.int .i64 t257) := (blk_cell BK261.out 2).trans rfl
         have hcz63_3 : wr.cell? ⟨gb261, 3, none⟩ = some (.string t258) := (blk_cell BK261.out 3).trans rfl
         have hcz63_4 : wr.cell? ⟨gb261, 4, none⟩ = some (.int .i64 t259) := (blk_cell BK261.out 4).trans rfl
         have hfz63_0 := blk_frozen BK261.out 0
         have hfz63_1 := blk_frozen BK261.out 1
         have hfz63_2 := blk_frozen BK261.out 2
         have hfz63_3 := blk_frozen BK261.out 3
         have hfz63_4 := blk_frozen BK261.out 4
         try go_wp2_with (first | ((with_reducible refine gate_builtin (b := .append) (xs := #[.tmp 82, .tmp 89]) rfl ?_); at_builtin; refine Kd.Q_append k83 (w0 := w) w.heap.size rfl (.tmp 82) (.tmp 89) 48 83 (.agg #[(.string ⟨#[]⟩), (.int .i64 0), (.int .i64 0), (.string ⟨#[]⟩), (.int .i64 0), (.int .i64 0)]) 64 rfl Try.underlying48 info83 rfl (z_5) (z_6) u13 x13_2 (⟨(⟨t255, t256, t257, t258, t259⟩ : S26), wrap64 (a3 + t259)⟩ : S83) [.string t255, .int .i64 t256, .int .i64 t257, .string t258, .int .i64 t259, .int .i64 (wrap64 (a3 + t259))] (fun _ => True) (fun _ => False) rfl rfl ?aP (fun _ hk => hk.elim) ?aF ?aO ?aB ?aS ?aL ?_; (case aP => exact k83_mkM _ _ _ (⟨(⟨t255, t256, t257, t258, t259⟩ : S26), wrap64 (a3 + t259)⟩ : S83)); (case aB => exact z_80); (case aF => exact z_34); (case aO => exact z_94); (case aS => exact z_81); (case aL => have := LMc48.out; omega); intro v271 w64 ho hb hg hat; rw [← Ny270.out] at ho; have n0_ := Aside0.mk (blk_grown (g := gb254) (o := .cells #[.string x255000_2, .int .i64 x255001_2, .int .i64 x255002_2, .string x255003_2, .int .i64 x255004_2] 26 (0, 0)) (z_71) hg (Kd.Q_ne HO_13.out BK254.out (z_5))); have n1_ := Aside0.mk (blk_grown (g := gb261) (o := .cells #[.string t255, .int .i64 t256, .int .i64 t257, .string t258, .int .i64 t259] 26 (0, 0)) (z_78) hg (Kd.Q_ne HO_13.out BK261.out (z_5))); have n2_ := Aside0.mk (hb); have n3_ := Aside0.mk (ho); clear BK254; clear BK261; clear HB; clear HO_13; have BK254 := n0_; have BK261 := n1_; have HB := n2_; have HO272 := n3_; clear n0_ n1_ n2_ n3_; clear ho hb hg hat; obtain ⟨Ao65, co65, eo65, _⟩ := Kd.Q_slice HO272.out; subst eo65))
         have n0_ := Aside0.mk (Kd.Q_drew HO272.out)
         have n1_ := Aside0.mk (blk_drew BK254.out)
         have n2_ := Aside0.mk (blk_drew BK261.out)
         have n3_ := Aside0.mk (below_drew1 HB.out)
         clear HO272
         clear BK254
         clear BK261
         clear HB
         have HO272 := n0_
         have BK254 := n1_
         have BK261 := n2_
         have HB := n3_
         clear n0_ n1_ n2_ n3_
         refine start_ (n := 5) (S := fun w' => w'.cell? ⟨gb261, 0, none⟩ = some (.string t255) ∧ w'.cell? ⟨gb261, 1, none⟩ = some (.int .i64 t256) ∧ w'.cell? ⟨gb261, 2, none⟩ = some (.int .i64 t257) ∧ w'.cell? ⟨gb261, 3, none⟩ = some (.string t258) ∧ w'.cell? ⟨gb261, 4, none⟩ = some (.int .i64 t259)) (ds := []) #[F,F,F,F,F] (z_0) rfl rfl ⟨(blk_cell BK261.out 0).trans rfl, (blk_cell BK261.out 1).trans rfl, (blk_cell BK261.out 2).trans rfl, (blk_cell BK261.out 3).trans rfl, (blk_cell BK261.out 4).trans rfl⟩ (fun hHeld => ?_)
         generalize w64.drew = w66 at HO272 BK254 BK261 HB hHeld ⊢
         refine pure_ (i := 0) (N := some 96) (v := ?_) (a' := ?_) #[T,F,F,F,F] rfl rfl (z_0) (fun _ _ _ h => h) (Or.inl ⟨z_1, ?_⟩) ?_ ?_
         rotate_left
         ·intro w'
          go_simp
          with_reducible rfl
         rotate_left
         ·simp only [Act.put, List.setIfInBounds_toArray, List.set_cons_zero, List.set_cons_succ, i64_w, i32_w]
          rfl
         refine pure_ (i := 2) (N := some 8) (v := ?_) (a' := ?_) #[T,F,T,F,F] rfl rfl (z_0) (fun _ _ _ h => h) (Or.inl ⟨z_1, ?_⟩) ?_ ?_
         rotate_left
         ·intro w'
          go_simp
          with_reducible rfl
         rotate_left
         ·simp only [Act.put, List.setIfInBounds_toArray, List.set_cons_zero, List.set_cons_succ, i64_w, i32_w]
          rfl
         refine take_ (i := 1) (N := some 97) (v := ?_) (a' := ?_) #[T,T,T,F,F] rfl rfl (z_0) (fun _ _ _ h => h) (Or.inl ⟨z_1, ?_⟩) hHeld ?_ ?_
         rotate_left
         ·rintro w' ⟨s0, s1, s2, s3, s4⟩
          go_simp
          with_reducible rfl
         rotate_left
         ·simp only [Act.put, List.setIfInBounds_toArray, List.set_cons_zero, List.set_cons_succ, i64_w, i32_w]
          rfl
         refine one_ (i := 3) (N := none) #[T,T,T,T,F] rfl rfl (z_0) (z_5) (fun K hK => ?_)
         have hs67 : w66.cell? ⟨gb254, 0, none⟩ = some (.string x255000_2) := (blk_cell BK254.out 0).trans rfl
         have hfs67 := blk_frozen BK254.out 0
         have hns67_1 := NB261_254.out
         have hms67_1 := NB254_261.out
         have hs68 : w66.cell? ⟨gb254, 1, none⟩ = some (.int .i64 x255001_2) := (blk_cell BK254.out 1).trans rfl
         have hfs68 := blk_frozen BK254.out 1
         have hns68_1 := NB261_254.out
         have hms68_1 := NB254_261.out
         have hs69 : w66.cell? ⟨gb254, 2, none⟩ = some (.int .i64 x255002_2) := (blk_cell BK254.out 2).trans rfl
         have hfs69 := blk_frozen BK254.out 2
         have hns69_1 := NB261_254.out
         have hms69_1 := NB254_261.out
         have hs70 : w66.cell? ⟨gb254, 3, none⟩ = some (.string x255003_2) := (blk_cell BK254.out 3).trans rfl
         have hfs70 := blk_frozen BK254.out 3
         have hns70_1 := NB261_254.out
         have hms70_1 := NB254_261.out
         have hs71 : w66.cell? ⟨gb254, 4, none⟩ = some (.int .i64 x255004_2) := (blk_cell BK254.out 4).trans rfl
         have hfs71 := blk_frozen BK254.out 4
         have hns71_1 := NB261_254.out
         have hms71_1 := NB254_261.out
         refine skip_ (w1 := ?_) (z_1) rfl ?_ ?_
         rotate_left
         ·go_simp
          rfl
         refine hK.out _ _ ⟨((cell_far (p := ⟨gb254, _, none⟩) NB261_254.out _).trans (((cell_far (p := ⟨gb254, _, none⟩) NB261_254.out _).trans (((cell_far (p := ⟨gb254, _, none⟩) NB261_254.out _).trans (((cell_far (p := ⟨gb254, _, none⟩) NB261_254.out _).trans (((cell_far (p := ⟨gb254, _, none⟩) NB261_254.out _).trans (hHeld.1)))))))))), ((cell_far (p := ⟨gb254, _, none⟩) NB261_254.out _).trans (((cell_far (p := ⟨gb254, _, none⟩) NB261_254.out _).trans (((cell_far (p := ⟨gb254, _, none⟩) NB261_254.out _).trans (((cell_far (p := ⟨gb254, _, none⟩) NB261_254.out _).trans (((cell_far (p := ⟨gb254, _, none⟩) NB261_254.out _).trans (hHeld.2.1)))))))))), ((cell_far (p := ⟨gb254, _, none⟩) NB261_254.out _).trans (((cell_far (p := ⟨gb254, _, none⟩) NB261_254.out _).trans (((cell_far (p := ⟨gb254, _, none⟩) NB261_254.out _).trans (((cell_far (p := ⟨gb254, _, none⟩) NB261_254.out _).trans (((cell_far (p := ⟨gb254, _, none⟩) NB261_254.out _).trans (hHeld.2.2.1)))))))))), ((cell_far (p := ⟨gb254, _, none⟩) NB261_254.out _).trans (((cell_far (p := ⟨gb254, _, none⟩) NB261_254.out _).trans (((cell_far (p := ⟨gb254, _, none⟩) NB261_254.out _).trans (((cell_far (p := ⟨gb254, _, none⟩) NB261_254.out _).trans (((cell_far (p := ⟨gb254, _, none⟩) NB261_254.out _).trans (hHeld.2.2.2.1)))))))))), ((cell_far (p := ⟨gb254, _, none⟩) NB261_254.out _).trans (((cell_far (p := ⟨gb254, _, none⟩) NB261_254.out _).trans (((cell_far (p := ⟨gb254, _, none⟩) NB261_254.out _).trans (((cell_far (p := ⟨gb254, _, none⟩) NB261_254.out _).trans (((cell_far (p := ⟨gb254, _, none⟩) NB261_254.out _).trans (hHeld.2.2.2.2))))))))))⟩ (fun hHeld => ?_)
         clear hK K
         refine pure_ (i := 4) (N := some 10) (v := ?_) (a' := ?_) #[T,T,T,T,T] rfl rfl (z_0) (fun _ _ _ h => h) (Or.inl ⟨z_1, ?_⟩) ?_ ?_
         rotate_left
         ·intro w'
          go_simp
          with_reducible rfl
         rotate_left
         ·simp only [Act.put, List.setIfInBounds_toArray, List.set_cons_zero, List.set_cons_succ, i64_w, i32_w]
          rfl
         refine done_ (z_0) ?_
         try go_wp2
         refine bodyPost_ret (results_list (rs := [.tmp 8, .cell 9 26, .tmp 10]) rfl (z_12) (.tmp (.cell gb254 26 #[.string t255, .int .i64 t256, .int .i64 t257, .string t258, .int .i64 t259] (0, 0) _ rfl (z_95) Try.underlying26 rfl (z_0) (.tmp .nil)))) rfl ?_
         exact ⟨_, z_13, by (with_reducible repeat (first | apply Kd.Q_alloc | apply Kd.Q_drewN | apply Kd.Q_drew)); exact Kd.Q_mono (Kd.Q_far (p := ⟨gb254, 4, none⟩) (Kd.Q_far (p := ⟨gb254, 3, none⟩) (Kd.Q_far (p := ⟨gb254, 2, none⟩) (Kd.Q_far (p := ⟨gb254, 1, none⟩) (Kd.Q_far (p := ⟨gb254, 0, none⟩) (Kd.Q_types HO272.out BK254.out (z_5)) (fun _ hk => hk.2) (.string t255)) (fun _ hk => hk.2) (.int .i64 t256)) (fun _ hk => hk.2) (.int .i64 t257)) (fun _ hk => hk.2) (.string t258)) (fun _ hk => hk.2) (.int .i64 t259)) (fun _ hk => trivial), z_74⟩
       ·rw [if_neg c48] at H
        exact absurd H (z_12)

end Go.Proofs.Ytmgnmgobibpjjaa.GFnKeptAsk
