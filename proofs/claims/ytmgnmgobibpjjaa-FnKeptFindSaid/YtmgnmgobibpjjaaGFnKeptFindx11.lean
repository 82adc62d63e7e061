/- What the Go functions that FnKeptFind reaches come to, walked step by step; there is no condition beyond those each statement names. -/
import Derived.Test.YtmgnmgobibpjjaaGFnKeptFindx0
import Derived.Test.YtmgnmgobibpjjaaGFnKeptFindx7
import Derived.Test.YtmgnmgobibpjjaaGFnKeptFindx10
namespace Go.Proofs.Ytmgnmgobibpjjaa.GFnKeptFind
open Go.RowKit Go.Proofs.YtmgnmgobibpjjaaVKeptFind.PrintWords Go.Proofs.YtmgnmgobibpjjaaVKeptFind.PrintLast Go.Proofs.YtmgnmgobibpjjaaVKeptFind.PrintMore
open Bool renaming true → T, false → F
attribute [local go_sem] max2_int min2_int max_two min_two max_three min_three max_four min_four   -- for this text's walks alone
set_option linter.unusedVariables false
set_option linter.unusedSimpArgs false

/-! ### spec_KeptAsk: function 45 -/
mutual
def spec_KeptAsk.j0 : Nat → List (S83) → ByteArray → Int → Bool → ByteArray → Int → Int → ByteArray → Int → Option ((List (S83)) × ByteArray × Int × Int × ByteArray × Int × Bool)
 | 0, _, _, _, _, _, _, _, _, _ => none
 | k + 1, x0, x2, x3, x32, x258000, x258001, x258002, x258003, x258004 => if x32 = true then (some ((([] : List (S83))), (⟨#[]⟩ : ByteArray), 0, 0, (⟨#[]⟩ : ByteArray), 0, false)) else (spec_KeptAsk.l0 k x0 x2 x3 (([] : List (S83))) 0 x258000 x258001 x258002 x258003 x258004)
def spec_KeptAsk.l0 : Nat → List (S83) → ByteArray → Int → List (S83) → Int → ByteArray → Int → Int → ByteArray → Int → Option ((List (S83)) × ByteArray × Int × Int × ByteArray × Int × Bool)
 | 0, _, _, _, _, _, _, _, _, _, _ => none
 | k + 1, x0, x2, x3, x13, x14, x258000, x258001, x258002, x258003, x258004 => if x14 < (x0.length : Int) then (if 0 ≤ x14 then (if ((rd_T83 x0 x14).f0.f0).toList = x2.toList then (spec_KeptAsk.j2 k x0 x2 x3 x13 x14 (decide (((rd_T83 x0 x14).f1) > x3)) x258000 x258001 x258002 x258003 x258004) else (spec_KeptAsk.j2 k x0 x2 x3 x13 x14 false x258000 x258001 x258002 x258003 x258004)) else (none)) else (if x13.length < 2199023255552 then ((some (x13 ++ [(⟨(⟨x258000, x258001, x258002, x258003, x258004⟩ : S26), wrap64 (x3 + x258004)⟩ : S83)] : List (S83))).bind fun y266 => (if (y266.length : Int) > 5 then (if 1 ≤ (y266.length : Int) then (some ((y266.drop (1 : Int).toNat), x258000, x258001, x258002, x258003, x258004, false)) else (none)) else (some (y266, x258000, x258001, x258002, x258003, x258004, false)))) else (none))
def spec_KeptAsk.j2 : Nat → List (S83) → ByteArray → Int → List (S83) → Int → Bool → ByteArray → Int → Int → ByteArray → Int → Option ((List (S83)) × ByteArray × Int × Int × ByteArray × Int × Bool)
 | 0, _, _, _, _, _, _, _, _, _, _, _ => none
 | k + 1, x0, x2, x3, x13, x14, x58, x258000, x258001, x258002, x258003, x258004 => if x58 = true then ((some (([] : List (S83)) : List (S83))).bind fun y274 => (if y274.length + x0.length < 2199023255552 then (if 0 ≤ x14 then (if x14 < (x0.length : Int) then (some ((y274 ++ x0), (rd_T83 x0 x14).f0.f0, (rd_T83 x0 x14).f0.f1, (rd_T83 x0 x14).f0.f2, (rd_T83 x0 x14).f0.f3, (rd_T83 x0 x14).f0.f4, true)) else (none)) else (none)) else (none))) else (if 0 ≤ x14 then (if x14 < (x0.length : Int) then (if ((rd_T83 x0 x14).f0.f0).toList = x2.toList then (spec_KeptAsk.l0 k x0 x2 x3 x13 (wrap64 (x14 + 1)) x258000 x258001 x258002 x258003 x258004) else (if x13.length < 2199023255552 then (spec_KeptAsk.l0 k x0 x2 x3 (x13 ++ [(⟨(⟨(rd_T83 x0 x14).f0.f0, (rd_T83 x0 x14).f0.f1, (rd_T83 x0 x14).f0.f2, (rd_T83 x0 x14).f0.f3, (rd_T83 x0 x14).f0.f4⟩ : S26), (rd_T83 x0 x14).f1⟩ : S83)]) (wrap64 (x14 + 1)) x258000 x258001 x258002 x258003 x258004) else (none))) else (none)) else (none))
end
def spec_KeptAsk.f (k : Nat) (l0 : List (S83)) (l1 : List (S26)) (a2 : ByteArray) (a3 : Int) : Option ((List (S83)) × ByteArray × Int × Int × ByteArray × Int × Bool) := (spec_NameAsk.f k l1 a2).bind fun bt251 => ((spec_KeptOk.f k l0).bind fun t258 => (if t258 = true then (if bt251.2.2.2.2.2 = true then ((spec_l1In.f a3 0 900000).bind fun t259 => (spec_KeptAsk.j0 k l0 a2 a3 (!t259) bt251.1 bt251.2.1 bt251.2.2.1 bt251.2.2.2.1 bt251.2.2.2.2.1)) else (spec_KeptAsk.j0 k l0 a2 a3 true bt251.1 bt251.2.1 bt251.2.2.1 bt251.2.2.2.1 bt251.2.2.2.2.1)) else (spec_KeptAsk.j0 k l0 a2 a3 true bt251.1 bt251.2.1 bt251.2.2.1 bt251.2.2.2.1 bt251.2.2.2.2.1)))
theorem spec_KeptAsk.mono_l : ∀ k, (∀ y0 y1 y2 y3 y4 y5 y6 y7 y8, LeO (spec_KeptAsk.j0 k y0 y1 y2 y3 y4 y5 y6 y7 y8) (spec_KeptAsk.j0 (k + 1) y0 y1 y2 y3 y4 y5 y6 y7 y8)) ∧ (∀ y0 y1 y2 y3 y4 y5 y6 y7 y8 y9, LeO (spec_KeptAsk.l0 k y0 y1 y2 y3 y4 y5 y6 y7 y8 y9) (spec_KeptAsk.l0 (k + 1) y0 y1 y2 y3 y4 y5 y6 y7 y8 y9)) ∧ (∀ y0 y1 y2 y3 y4 y5 y6 y7 y8 y9 y10, LeO (spec_KeptAsk.j2 k y0 y1 y2 y3 y4 y5 y6 y7 y8 y9 y10) (spec_KeptAsk.j2 (k + 1) y0 y1 y2 y3 y4 y5 y6 y7 y8 y9 y10))
 | 0 => ⟨fun _ _ _ _ _ _ _ _ _ r h => by simp [spec_KeptAsk.j0] at h, fun _ _ _ _ _ _ _ _ _ _ r h => by simp [spec_KeptAsk.l0] at h, fun _ _ _ _ _ _ _ _ _ _ _ r h => by simp [spec_KeptAsk.j2] at h⟩
 | k + 1 => by
  obtain ⟨ih0, ih1, ih2⟩ := spec_KeptAsk.mono_l k
  refine ⟨?_, ?_, ?_⟩
  ·intro y0 y1 y2 y3 y4 y5 y6 y7 y8
   unfold spec_KeptAsk.j0
   repeat' first
   | (with_reducible exact ih0 _ _ _ _ _ _ _ _ _)
   | (with_reducible exact ih1 _ _ _ _ _ _ _ _ _ _)
   | (with_reducible exact ih2 _ _ _ _ _ _ _ _ _ _ _)
   | (with_reducible exact spec_KeptOk.mono _ _)
   | (with_reducible exact spec_NameAsk.mono _ _ _)
   | (with_reducible exact LeO.refl _)
   | (with_reducible exact LeO.none _)
   | (with_reducible refine LeO.ite ?_ ?_)
   | (with_reducible refine LeO.bind ?_ (fun _ => ?_))
   | exact ih0 _ _ _ _ _ _ _ _ _
   | exact ih1 _ _ _ _ _ _ _ _ _ _
   | exact ih2 _ _ _ _ _ _ _ _ _ _ _
   | exact spec_KeptOk.mono _ _
   | exact spec_NameAsk.mono _ _ _
   | exact LeO.none _
   | refine LeO.ite ?_ ?_
   | refine LeO.bind ?_ (fun _ => ?_)
  ·intro y0 y1 y2 y3 y4 y5 y6 y7 y8 y9
   unfold spec_KeptAsk.l0
   repeat' first
   | (with_reducible exact ih0 _ _ _ _ _ _ _ _ _)
   | (with_reducible exact ih1 _ _ _ _ _ _ _ _ _ _)
   | (with_reducible exact ih2 _ _ _ _ _ _ _ _ _ _ _)
   | (with_reducible exact spec_KeptOk.mono _ _)
   | (with_reducible exact spec_NameAsk.mono _ _ _)
   | (with_reducible exact LeO.refl _)
   | (with_reducible exact LeO.none _)
   | (with_reducible refine LeO.ite ?_ ?_)
   | (with_reducible refine LeO.bind ?_ (fun _ => ?_))
   | exact ih0 _ _ _ _ _ _ _ _ _
   | exact ih1 _ _ _ _ _ _ _ _ _ _
   | exact ih2 _ _ _ _ _ _ _ _ _ _ _
   | exact spec_KeptOk.mono _ _
   | exact spec_NameAsk.mono _ _ _
   | exact LeO.none _
   | refine LeO.ite ?_ ?_
   | refine LeO.bind ?_ (fun _ => ?_)
  ·intro y0 y1 y2 y3 y4 y5 y6 y7 y8 y9 y10
   unfold spec_KeptAsk.j2
   repeat' first
   | (with_reducible exact ih0 _ _ _ _ _ _ _ _ _)
   | (with_reducible exact ih1 _ _ _ _ _ _ _ _ _ _)
   | (with_reducible exact ih2 _ _ _ _ _ _ _ _ _ _ _)
   | (with_reducible exact spec_KeptOk.mono _ _)
   | (with_reducible exact spec_NameAsk.mono _ _ _)
   | (with_reducible exact LeO.refl _)
   | (with_reducible exact LeO.none _)
   | (with_reducible refine LeO.ite ?_ ?_)
   | (with_reducible refine LeO.bind ?_ (fun _ => ?_))
   | exact ih0 _ _ _ _ _ _ _ _ _
   | exact ih1 _ _ _ _ _ _ _ _ _ _
   | exact ih2 _ _ _ _ _ _ _ _ _ _ _
   | exact spec_KeptOk.mono _ _
   | exact spec_NameAsk.mono _ _ _
   | exact LeO.none _
   | refine LeO.ite ?_ ?_
   | refine LeO.bind ?_ (fun _ => ?_)
theorem spec_KeptAsk.mono : ∀ a0 a1 a2 a3 k, LeO (spec_KeptAsk.f k a0 a1 a2 a3) (spec_KeptAsk.f (k + 1) a0 a1 a2 a3) := by
 intro a0 a1 a2 a3 k
 obtain ⟨ih0, ih1, ih2⟩ := spec_KeptAsk.mono_l k
 unfold spec_KeptAsk.f
 repeat' first
   | (with_reducible exact ih0 _ _ _ _ _ _ _ _ _)
   | (with_reducible exact ih1 _ _ _ _ _ _ _ _ _ _)
   | (with_reducible exact ih2 _ _ _ _ _ _ _ _ _ _ _)
   | (with_reducible exact spec_KeptOk.mono _ _)
   | (with_reducible exact spec_NameAsk.mono _ _ _)
   | (with_reducible exact LeO.refl _)
   | (with_reducible exact LeO.none _)
   | (with_reducible refine LeO.ite ?_ ?_)
   | (with_reducible refine LeO.bind ?_ (fun _ => ?_))
   | exact ih0 _ _ _ _ _ _ _ _ _
   | exact ih1 _ _ _ _ _ _ _ _ _ _
   | exact ih2 _ _ _ _ _ _ _ _ _ _ _
   | exact spec_KeptOk.mono _ _
   | exact spec_NameAsk.mono _ _ _
   | exact LeO.none _
   | refine LeO.ite ?_ ?_
   | refine LeO.bind ?_ (fun _ => ?_)
def spec_KeptAsk.T9 : Bool × List (List Nat × List Nat) := (true, [([], []), ([], []), ([0, 1], [0, 1]), ([], []), ([], []), ([3, 4], [3, 4]), ([5], [5]), ([6], [6]), ([2, 2, 0, 1, 2], [2]), ([7, 8, 0, 1, 2, 3, 4, 5, 6, 7, 8], [7]), ([9, 0, 1, 2, 3, 4, 5, 6, 7, 8, 9], [])])
def spec_KeptAsk.B9 : List Nat := [0, 0, 3, 0, 0, 24, 56, 120, 7, 511, 1023]
theorem spec_KeptAsk.tab9 : rtab .any (opsOf Try.f45 9) = spec_KeptAsk.T9 := z_0
theorem spec_KeptAsk.bits9 : waitsOk spec_KeptAsk.T9.2 spec_KeptAsk.B9 = true := z_0
set_option maxHeartbeats 8000000 in
set_option maxRecDepth 100000 in
theorem spec_KeptAsk.calls (k : Nat) (A0 : Option Addr) (c0 : Nat) (l0 : List (S83)) (A1 : Option Addr) (c1 : Nat) (l1 : List (S26)) (a2 : ByteArray) (a3 : Int) (r1 : List (S83)) (r2 : ByteArray) (r3 : Int) (r4 : Int) (r5 : ByteArray) (r6 : Int) (r7 : Bool) (w : World) (hr0 : Kd.C k83 w A0 l0.length l0) (hc0 : l0.length ≤ c0) (hr1 : Kd.C k26 w A1 l1.length l1) (hc1 : l1.length ≤ c1) (h : spec_KeptAsk.f k l0 l1 a2 a3 = some (r1, r2, r3, r4, r5, r6, r7)) :
  Calls Try.prog 45 #[.slice A0 l0.length c0, .slice A1 l1.length c1, .string a2, .int .i64 a3] w fun e w' => ∃ v0_ : Value, e = .returned (.tuple #[v0_, .agg #[.string r2, .int .i64 r3, .int .i64 r4, .string r5, .int .i64 r6], .bool r7]) ∧ Kd.Q k83 83 w' w.heap.size (fun _ => True) v0_ r1 ∧ Below w.heap.size w w' := by
 have hu26 := Try.underlying26
 have hu83 := Try.underlying83
 have HR0 := Aside0.mk hr0
 have HC0 := Aside0.mk hc0
 clear hr0 hc0
 have HR1 := Aside0.mk hr1
 have HC1 := Aside0.mk hc1
 clear hr1 hc1
 have HB := Aside0.mk (Below.refl w.heap.size w)
 have H : ((spec_NameAsk.f k l1 a2).bind fun bt251 => ((spec_KeptOk.f k l0).bind fun t258 => (if t258 = true then (if bt251.2.2.2.2.2 = true then ((spec_l1In.f a3 0 900000).bind fun t259 => (spec_KeptAsk.j0 k l0 a2 a3 (!t259) bt251.1 bt251.2.1 bt251.2.2.1 bt251.2.2.2.1 bt251.2.2.2.2.1)) else (spec_KeptAsk.j0 k l0 a2 a3 true bt251.1 bt251.2.1 bt251.2.2.1 bt251.2.2.2.1 bt251.2.2.2.2.1)) else (spec_KeptAsk.j0 k l0 a2 a3 true bt251.1 bt251.2.1 bt251.2.2.1 bt251.2.2.2.1 bt251.2.2.2.2.1)))) = some (r1, r2, r3, r4, r5, r6, r7) := h
 clear h
 replace H := Option.bind_eq_some_iff.mp H
 obtain ⟨⟨t251, t252, t253, t254, t255, t256⟩, A50, H⟩ := H
 replace H : ((spec_KeptOk.f k l0).bind fun t258 => (if t258 = true then (if t256 = true then ((spec_l1In.f a3 0 900000).bind fun t259 => (spec_KeptAsk.j0 k l0 a2 a3 (!t259) t251 t252 t253 t254 t255)) else (spec_KeptAsk.j0 k l0 a2 a3 true t251 t252 t253 t254 t255)) else (spec_KeptAsk.j0 k l0 a2 a3 true t251 t252 t253 t254 t255))) = some (r1, r2, r3, r4, r5, r6, r7) := H
 have A5 := Aside0.mk A50
 clear A50
 have HC6 := Aside0.mk H
 clear H
 go_enter Try.func45, Try.ntmps45
 go_upto_region 2 with (first | ((with_reducible refine gate_dst (N := 9) rfl ?_); refine box_event ?hg (N := 9) ?hd (cs := #[.string (⟨#[]⟩ : ByteArray), .int .i64 0, .int .i64 0, .string (⟨#[]⟩ : ByteArray), .int .i64 0]) (t := 26) ?hr ?_; (case hd => rfl); (case hg => rfl); (case hr => exact z_9); intro gb250 hg w7 hbox hb; have n0_ := Aside0.mk (below_step (z_8) hb); have n1_ := Aside0.mk (hbox); have n2_ := Aside0.mk ((z_20 : w.heap.size ≤ gb250)); have n3_ := Aside0.mk ((z_20 : w.heap.size ≤ gb250)); clear HB; have HB := n0_; have BK250 := n1_; have GW250 := n2_; have GE250 := n3_; clear n0_ n1_ n2_ n3_; clear hb hbox hg) | ((with_reducible refine gate_callee (f := 30) rfl ?_); refine goesL_ (some 18) rfl rfl Try.func30 (z_0) rfl #[.slice A1 l1.length c1, .string a2] rfl (z_14) ?_; (with_reducible refine (spec_NameAsk.calls k _ _ l1 a2 t251 t252 t253 t254 t255 t256 _ ?side1 ?side2 A5.out).mono ?_); (case side1 => exact z_60); (case side2 => exact HC1.out); rintro e w8 ⟨rfl, hb⟩; refine ⟨_, rfl, ?_⟩; have n0_ := Aside0.mk (blk_below (g := gb250) (o := .cells #[.string (⟨#[]⟩ : ByteArray), .int .i64 0, .int .i64 0, .string (⟨#[]⟩ : ByteArray), .int .i64 0] 26 (0, 0)) (z_61) hb); have n1_ := Aside0.mk (below_step (z_62) hb); clear BK250; clear HB; have BK250 := n0_; have HB := n1_; clear n0_ n1_; (try clear hb); (try clear hb2); (try clear hk); (try clear hi)) | ((with_reducible refine gate_dst (N := 11) rfl ?_); refine box_event ?hg (N := 11) ?hd (cs := #[.string (⟨#[]⟩ : ByteArray), .int .i64 0, .int .i64 0, .string (⟨#[]⟩ : ByteArray), .int .i64 0]) (t := 26) ?hr ?_; (case hd => rfl); (case hg => rfl); (case hr => exact z_9); intro gb257 hg w9 hbox hb; have n0_ := Aside0.mk (blk_below (g := gb250) (o := .cells #[.string (⟨#[]⟩ : ByteArray), .int .i64 0, .int .i64 0, .string (⟨#[]⟩ : ByteArray), .int .i64 0] 26 (0, 0)) (z_61) hb); have n1_ := Aside0.mk (below_step (z_62) hb); have n2_ := Aside0.mk (hbox); have n3_ := Aside0.mk ((z_63 : w.heap.size ≤ gb257)); have n4_ := Aside0.mk ((z_63 : w.heap.size ≤ gb257)); have n5_ := Aside0.mk ((by rw [hg]; exact Nat.ne_of_lt (blk_lt (g := gb250) (o := .cells #[.string (⟨#[]⟩ : ByteArray), .int .i64 0, .int .i64 0, .string (⟨#[]⟩ : ByteArray), .int .i64 0] 26 (0, 0)) (z_61)) : gb250 ≠ gb257)); have n6_ := Aside0.mk ((by rw [hg]; exact Nat.ne_of_gt (blk_lt (g := gb250) (o := .cells #[.string (⟨#[]⟩ : ByteArray), .int .i64 0, .int .i64 0, .string (⟨#[]⟩ : ByteArray), .int .i64 0] 26 (0, 0)) (z_61)) : gb257 ≠ gb250)); clear BK250; clear HB; have BK250 := n0_; have HB := n1_; have BK257 := n2_; have GW257 := n3_; have GE257 := n4_; have NB250_257 := n5_; have NB257_250 := n6_; clear n0_ n1_ n2_ n3_ n4_ n5_ n6_; clear hb hbox hg; have hnb10 := NB257_250.out; have hnc10 := NB250_257.out; have hcz11_0 : w9.cell? ⟨gb257, 0, none⟩ = some (.string (⟨#[]⟩ : ByteArray)) := (blk_cell BK257.out 0).trans rfl; have hcz11_1 : w9.cell? ⟨gb257, 1, none⟩ = some (.int .i64 0) := (blk_cell BK257.out 1).trans rfl; have hcz11_2 : w9.cell? ⟨gb257, 2, none⟩ = some (.int .i64 0) := (blk_cell BK257.out 2).trans rfl; have hcz11_3 : w9.cell? ⟨gb257, 3, none⟩ = some (.string (⟨#[]⟩ : ByteArray)) := (blk_cell BK257.out 3).trans rfl; have hcz11_4 : w9.cell? ⟨gb257, 4, none⟩ = some (.int .i64 0) := (blk_cell BK257.out 4).trans rfl; have hfz11_0 := blk_frozen BK257.out 0; have hfz11_1 := blk_frozen BK257.out 1; have hfz11_2 := blk_frozen BK257.out 2; have hfz11_3 := blk_frozen BK257.out 3; have hfz11_4 := blk_frozen BK257.out 4))
 (try simp only [Act.put, List.setIfInBounds_toArray, List.set_cons_zero, List.set_cons_succ])
 go_cut [32] (fun v32 wc => ∃ (kq : Nat) (x32_5 : Bool), v32 = .bool x32_5 ∧ Aside0 (spec_KeptAsk.j0 kq l0 a2 a3 x32_5 t251 t252 t253 t254 t255 = some (r1, r2, r3, r4, r5, r6, r7)) ∧ Aside0 (kq ≤ k) ∧ Aside0 (wc.heap[gb250]? = some (.cells #[.string (⟨#[]⟩ : ByteArray), .int .i64 0, .int .i64 0, .string (⟨#[]⟩ : ByteArray), .int .i64 0] 26 (0, 0))) ∧ Aside0 (wc.heap[gb257]? = some (.cells #[.string t251, .int .i64 t252, .int .i64 t253, .string t254, .int .i64 t255] 26 (0, 0))) ∧ Aside0 (Below w.heap.size w wc))
 case first =>
  have H := HC6.out
  clear HC6
  replace H := Option.bind_eq_some_iff.mp H
  obtain ⟨t258, A120, H⟩ := H
  have A12 := Aside0.mk A120
  clear A120
  by_cases c13 : t258 = true
  ·subst c13
   rw [if_pos rfl] at H
   by_cases c14 : t256 = true
   ·subst c14
    rw [if_pos rfl] at H
    replace H := Option.bind_eq_some_iff.mp H
    obtain ⟨t259, A150, H⟩ := H
    have A15 := Aside0.mk A150
    clear A150
    have H' := Aside0.mk H
    clear H
    go_wp2_with (first | ((with_reducible refine gate_callee (f := 34) rfl ?_); refine goesL_ (some 22) rfl rfl Try.func34 (z_0) rfl #[.slice A0 l0.length c0] rfl (z_14) ?_; (with_reducible refine (spec_KeptOk.calls k _ _ l0 true _ ?side1 ?side2 A12.out).mono ?_); (case side1 => exact z_65); (case side2 => exact HC0.out); rintro e w16 ⟨rfl, hb⟩; refine ⟨_, rfl, ?_⟩; have n0_ := Aside0.mk (blk_below (g := gb250) (o := .cells #[.string (⟨#[]⟩ : ByteArray), .int .i64 0, .int .i64 0, .string (⟨#[]⟩ : ByteArray), .int .i64 0] 26 (0, 0)) (z_66) hb); have n1_ := Aside0.mk (blk_below (g := gb257) (o := .cells #[.string t251, .int .i64 t252, .int .i64 t253, .string t254, .int .i64 t255] 26 (0, 0)) (z_67) hb); have n2_ := Aside0.mk (below_step (z_64) hb); clear BK250; clear BK257; clear HB; have BK250 := n0_; have BK257 := n1_; have HB := n2_; clear n0_ n1_ n2_; (try clear hb); (try clear hb2); (try clear hk); (try clear hi)) | (go_at_call 55; (with_reducible refine (spec_l1In.calls a3 0 900000 t259 _ A15.out).mono ?_); rintro e w' ⟨rfl, ⟨nd, rfl⟩⟩))
    go_meet
    case rel => exact ⟨_, (!t259), (z_3), H', ⟨z_23⟩, ⟨z_61⟩, ⟨z_68⟩, ⟨z_64⟩⟩
   ·replace c14 := Bool.eq_false_iff.mpr c14
    subst c14
    rw [if_neg (show ¬ (false = true) by decide)] at H
    have H' := Aside0.mk H
    clear H
    go_wp2_with (first | ((with_reducible refine gate_callee (f := 34) rfl ?_); refine goesL_ (some 22) rfl rfl Try.func34 (z_0) rfl #[.slice A0 l0.length c0] rfl (z_14) ?_; (with_reducible refine (spec_KeptOk.calls k _ _ l0 true _ ?side1 ?side2 A12.out).mono ?_); (case side1 => exact z_65); (case side2 => exact HC0.out); rintro e w17 ⟨rfl, hb⟩; refine ⟨_, rfl, ?_⟩; have n0_ := Aside0.mk (blk_below (g := gb250) (o := .cells #[.string (⟨#[]⟩ : ByteArray), .int .i64 0, .int .i64 0, .string (⟨#[]⟩ : ByteArray), .int .i64 0] 26 (0, 0)) (z_66) hb); have n1_ := Aside0.mk (blk_below (g := gb257) (o := .cells #[.string t251, .int .i64 t252, .int .i64 t253, .string t254, .int .i64 t255] 26 (0, 0)) (z_67) hb); have n2_ := Aside0.mk (below_step (z_64) hb); clear BK250; clear BK257; clear HB; have BK250 := n0_; have BK257 := n1_; have HB := n2_; clear n0_ n1_ n2_; (try clear hb); (try clear hb2); (try clear hk); (try clear hi)))
    go_meet
    case rel => exact ⟨_, (true), (z_3), H', ⟨z_23⟩, ⟨z_61⟩, ⟨z_68⟩, ⟨z_64⟩⟩
  ·replace c13 := Bool.eq_false_iff.mpr c13
   subst c13
   rw [if_neg (show ¬ (false = true) by decide)] at H
   have H' := Aside0.mk H
   clear H
   go_wp2_with (first | ((with_reducible refine gate_callee (f := 34) rfl ?_); refine goesL_ (some 22) rfl rfl Try.func34 (z_0) rfl #[.slice A0 l0.length c0] rfl (z_14) ?_; (with_reducible refine (spec_KeptOk.calls k _ _ l0 false _ ?side1 ?side2 A12.out).mono ?_); (case side1 => exact z_65); (case side2 => exact HC0.out); rintro e w18 ⟨rfl, hb⟩; refine ⟨_, rfl, ?_⟩; have n0_ := Aside0.mk (blk_below (g := gb250) (o := .cells #[.string (⟨#[]⟩ : ByteArray), .int .i64 0, .int .i64 0, .string (⟨#[]⟩ : ByteArray), .int .i64 0] 26 (0, 0)) (z_66) hb); have n1_ := Aside0.mk (blk_below (g := gb257) (o := .cells #[.string t251, .int .i64 t252, .int .i64 t253, .string t254, .int .i64 t255] 26 (0, 0)) (z_67) hb); have n2_ := Aside0.mk (below_step (z_64) hb); clear BK250; clear BK257; clear HB; have BK250 := n0_; have BK257 := n1_; have HB := n2_; clear n0_ n1_ n2_; (try clear hb); (try clear hb2); (try clear hk); (try clear hi)))
   go_meet
   case rel => exact ⟨_, (true), (z_3), H', ⟨z_23⟩, ⟨z_61⟩, ⟨z_68⟩, ⟨z_64⟩⟩
 case rest =>
  clear HC6
  try clear c1
  try clear p2
  try clear c3
  try clear c4
  try clear c10
  try clear c13
  try clear c14
  try clear hcz11_0
  try clear hcz11_1
  try clear hcz11_2
  try clear hcz11_3
  try clear hcz11_4
  try clear hfz11_0
  try clear hfz11_1
  try clear hfz11_2
  try clear hfz11_3
  try clear hfz11_4
  obtain ⟨kq, x32_5, rfl, HA, HJ5, BK250, BK257, HB⟩ := hcut
  cases kq with
  | zero => exact absurd HA.out (by simp [spec_KeptAsk.j0])
  | succ kj5 =>
   have H := HA.out
   clear HA
   simp only [spec_KeptAsk.j0] at H
   by_cases c19 : x32_5 = true
   ·subst c19
    rw [if_pos rfl] at H
    obtain ⟨y260, hy260⟩ : ∃ y_ : List (S83), y_ = (([] : List (S83))) := ⟨_, rfl⟩
    replace H : (some (y260, (⟨#[]⟩ : ByteArray), 0, 0, (⟨#[]⟩ : ByteArray), 0, false)) = some (r1, r2, r3, r4, r5, r6, r7) := by first | (rw [hy260]; with_reducible exact H) | (have H2_ := (Option.bind_some _ _).symm.trans H; rw [hy260]; with_reducible exact H2_) | (have H2_ := (Option.bind_some _ _).symm.trans H; with_reducible exact H2_) | with_reducible exact H | (rw [hy260]; exact H) | exact H
    have Ny260 := Aside0.mk hy260
    clear hy260
    simp only [Option.some.injEq, Prod.mk.injEq] at H
    obtain ⟨rfl, rfl, rfl, rfl, rfl, rfl, rfl⟩ := H
    go_wp2_with (first | ((with_reducible refine gate_dst (N := 33) rfl ?_); refine Kd.R_lit k83 _ 83 ?hg (N := 33) ?hd (xs := ([] : List (S83))) (inner := []) (ok := fun _ => True) (okp := fun _ => True) ?hr ?hp (fun _ hk => hk) trivial (Below.refl _ _) (Nat.le_refl _) (z_12) ?_; (case hd => rfl); (case hg => rfl); (case hr => exact z_9); (case hp => exact z_44); intro v261 w20 ho21 hb hg_ hnew_; clear hg_ hnew_; (first | rw [← Ny260.out] at ho21 | (simp only [Int.reduceToNat] at ho21; rw [← Ny260.out] at ho21)); have n0_ := Aside0.mk (Kd.R_lower ho21 (below_size (z_64))); have n1_ := Aside0.mk (blk_below (g := gb250) (o := .cells #[.string (⟨#[]⟩ : ByteArray), .int .i64 0, .int .i64 0, .string (⟨#[]⟩ : ByteArray), .int .i64 0] 26 (0, 0)) (z_61) hb); have n2_ := Aside0.mk (blk_below (g := gb257) (o := .cells #[.string t251, .int .i64 t252, .int .i64 t253, .string t254, .int .i64 t255] 26 (0, 0)) (z_68) hb); have n3_ := Aside0.mk (below_step (z_64) hb); clear BK250; clear BK257; clear HB; have HO262 := n0_; have BK250 := n1_; have BK257 := n2_; have HB := n3_; clear n0_ n1_ n2_ n3_; clear hb ho21; have hnb22 := NB250_257.out; have hnc22 := NB257_250.out; have hcz23_0 : w20.cell? ⟨gb250, 0, none⟩ = some (.string (⟨#[]⟩ : ByteArray)) := (blk_cell BK250.out 0).trans rfl; have hcz23_1 : w20.cell? ⟨gb250, 1, none⟩ = some (.int .i64 0) := (blk_cell BK250.out 1).trans rfl; have hcz23_2 : w20.cell? ⟨gb250, 2, none⟩ = some (.int .i64 0) := (blk_cell BK250.out 2).trans rfl; have hcz23_3 : w20.cell? ⟨gb250, 3, none⟩ = some (.string (⟨#[]⟩ : ByteArray)) := (blk_cell BK250.out 3).trans rfl; have hcz23_4 : w20.cell? ⟨gb250, 4, none⟩ = some (.int .i64 0) := (blk_cell BK250.out 4).trans rfl; have hfz23_0 := blk_frozen BK250.out 0; have hfz23_1 := blk_frozen BK250.out 1; have hfz23_2 := blk_frozen BK250.out 2; have hfz23_3 := blk_frozen BK250.out 3; have hfz23_4 := blk_frozen BK250.out 4))
    refine bodyPost_ret (results_list (rs := [.tmp 8, .cell 9 26, .tmp 10]) rfl (z_12) (.tmp (.cell gb250 26 #[.string (⟨#[]⟩ : ByteArray), .int .i64 0, .int .i64 0, .string (⟨#[]⟩ : ByteArray), .int .i64 0] (0, 0) _ rfl (by (with_reducible repeat (first | refine blk_drewN ?_ _ | refine blk_drew ?_ | refine blk_alloc ?_ _)); refine blk_put (cs := #[.string (⟨#[]⟩ : ByteArray), .int .i64 0, .int .i64 0, .string (⟨#[]⟩ : ByteArray), .int .i64 0]) ?_ 4 _ rfl; (with_reducible repeat (first | refine blk_drewN ?_ _ | refine blk_drew ?_ | refine blk_alloc ?_ _)); refine blk_put (cs := #[.string (⟨#[]⟩ : ByteArray), .int .i64 0, .int .i64 0, .string (⟨#[]⟩ : ByteArray), .int .i64 0]) ?_ 3 _ rfl; (with_reducible repeat (first | refine blk_drewN ?_ _ | refine blk_drew ?_ | refine blk_alloc ?_ _)); refine blk_put (cs := #[.string (⟨#[]⟩ : ByteArray), .int .i64 0, .int .i64 0, .string (⟨#[]⟩ : ByteArray), .int .i64 0]) ?_ 2 _ rfl; (with_reducible repeat (first | refine blk_drewN ?_ _ | refine blk_drew ?_ | refine blk_alloc ?_ _)); refine blk_put (cs := #[.string (⟨#[]⟩ : ByteArray), .int .i64 0, .int .i64 0, .string (⟨#[]⟩ : ByteArray), .int .i64 0]) ?_ 1 _ rfl; (with_reducible repeat (first | refine blk_drewN ?_ _ | refine blk_drew ?_ | refine blk_alloc ?_ _)); refine blk_put (cs := #[.string (⟨#[]⟩ : ByteArray), .int .i64 0, .int .i64 0, .string (⟨#[]⟩ : ByteArray), .int .i64 0]) ?_ 0 _ rfl; (with_reducible repeat (first | refine blk_drewN ?_ _ | refine blk_drew ?_ | refine blk_alloc ?_ _)); exact BK250.out) Try.underlying26 rfl (z_0) (.tmp .nil)))) rfl ?_
    exact ⟨_, z_13, Kd.Q_of_R (by (with_reducible repeat (first | apply Kd.R_alloc | apply Kd.R_drewN | apply Kd.R_drew)); exact Kd.R_mono (Kd.R_far (p := ⟨gb250, 4, none⟩) (Kd.R_far (p := ⟨gb250, 3, none⟩) (Kd.R_far (p := ⟨gb250, 2, none⟩) (Kd.R_far (p := ⟨gb250, 1, none⟩) (Kd.R_far (p := ⟨gb250, 0, none⟩) (Kd.R_types HO262.out BK250.out (z_5)) (fun _ hk => hk.2) (.string (⟨#[]⟩ : ByteArray))) (fun _ hk => hk.2) (.int .i64 0)) (fun _ hk => hk.2) (.int .i64 0)) (fun _ hk => hk.2) (.string (⟨#[]⟩ : ByteArray))) (fun _ hk => hk.2) (.int .i64 0)) (fun _ hk => trivial)), z_64⟩
   ·replace c19 := Bool.eq_false_iff.mpr c19
    subst c19
    rw [if_neg (show ¬ (false = true) by decide)] at H
    obtain ⟨y263, hy263⟩ : ∃ y_ : List (S83), y_ = (([] : List (S83))) := ⟨_, rfl⟩
    replace H : (spec_KeptAsk.l0 kj5 l0 a2 a3 y263 0 t251 t252 t253 t254 t255) = some (r1, r2, r3, r4, r5, r6, r7) := by first | (rw [hy263]; with_reducible exact H) | (have H2_ := (Option.bind_some _ _).symm.trans H; rw [hy263]; with_reducible exact H2_) | (have H2_ := (Option.bind_some _ _).symm.trans H; with_reducible exact H2_) | with_reducible exact H | (rw [hy263]; exact H) | exact H
    have Ny263 := Aside0.mk hy263
    clear hy263
    have H' := Aside0.mk H
    clear H
    go_wp2_with (first | ((with_reducible refine gate_dst (N := 35) rfl ?_); refine Kd.R_lit k83 _ 83 ?hg (N := 35) ?hd (xs := ([] : List (S83))) (inner := []) (ok := fun _ => True) (okp := fun _ => True) ?hr ?hp (fun _ hk => hk) trivial (Below.refl _ _) (Nat.le_refl _) (z_12) ?_; (case hd => rfl); (case hg => rfl); (case hr => exact z_9); (case hp => exact z_44); intro v264 w24 ho25 hb hg_ hnew_; clear hg_ hnew_; (first | rw [← Ny263.out] at ho25 | (simp only [Int.reduceToNat] at ho25; rw [← Ny263.out] at ho25)); have n0_ := Aside0.mk (Kd.R_lower ho25 (below_size (z_64))); have n1_ := Aside0.mk (blk_below (g := gb250) (o := .cells #[.string (⟨#[]⟩ : ByteArray), .int .i64 0, .int .i64 0, .string (⟨#[]⟩ : ByteArray), .int .i64 0] 26 (0, 0)) (z_61) hb); have n2_ := Aside0.mk (blk_below (g := gb257) (o := .cells #[.string t251, .int .i64 t252, .int .i64 t253, .string t254, .int .i64 t255] 26 (0, 0)) (z_68) hb); have n3_ := Aside0.mk (below_step (z_64) hb); clear BK250; clear BK257; clear HB; have HO265 := n0_; have BK250 := n1_; have BK257 := n2_; have HB := n3_; clear n0_ n1_ n2_ n3_; clear hb ho25))
    go_loopg [13, 14] kj5 (fun kq v13 v14 w' => ∃ (x13_2 : List (S83)) (x14_2 : Int) (x251000_2 : ByteArray) (x251001_2 : Int) (x251002_2 : Int) (x251003_2 : ByteArray) (x251004_2 : Int), v14 = .int .i64 x14_2 ∧ Aside0 (spec_KeptAsk.l0 kq l0 a2 a3 x13_2 x14_2 t251 t252 t253 t254 t255 = some (r1, r2, r3, r4, r5, r6, r7)) ∧ Aside0 (kq ≤ kj5) ∧ Aside0 (Kd.Q k83 83 w' w.heap.size (fun _ => True) v13 x13_2) ∧ Aside0 (w'.heap[gb250]? = some (.cells #[.string x251000_2, .int .i64 x251001_2, .int .i64 x251002_2, .string x251003_2, .int .i64 x251004_2] 26 (0, 0))) ∧ Aside0 (w'.heap[gb257]? = some (.cells #[.string t251, .int .i64 t252, .int .i64 t253, .string t254, .int .i64 t255] 26 (0, 0))) ∧ Aside0 (Below w.heap.size w w'))
    case atStart => exact ⟨(y263), (0), ((⟨#[]⟩ : ByteArray)), (0), (0), ((⟨#[]⟩ : ByteArray)), (0), (z_3), H', ⟨Nat.le_refl _⟩, ⟨Kd.Q_of_R (by (with_reducible repeat (first | apply Kd.R_alloc | apply Kd.R_drewN | apply Kd.R_drew)); exact HO265.out)⟩, ⟨z_61⟩, ⟨z_68⟩, ⟨z_64⟩⟩
    case round =>
     clear H'
     try clear c1
     try clear c2
     try clear p2
     try clear c3
     try clear c4
     try clear c10
     try clear c13
     try clear c14
     try clear c19
     try clear c22
     try clear hcz11_0
     try clear hcz11_1
     try clear hcz11_2
     try clear hcz11_3
     try clear hcz11_4
     try clear hcz23_0
     try clear hcz23_1
     try clear hcz23_2
     try clear hcz23_3
     try clear hcz23_4
     try clear hfz11_0
     try clear hfz11_1
     try clear hfz11_2
     try clear hfz11_3
     try clear hfz11_4
     try clear hfz23_0
     try clear hfz23_1
     try clear hfz23_2
     try clear hfz23_3
     try clear hfz23_4
     try clear p2
     obtain ⟨x13_2, x14_2, x251000_2, x251001_2, x251002_2, x251003_2, x251004_2, rfl, HA, HK2, HO_13, BK250, BK257, HB⟩ := hrel
     cases gk with
     | zero => exact absurd HA.out (by simp [spec_KeptAsk.l0])
     | succ k2 =>
      have H := HA.out
      clear HA
      simp only [spec_KeptAsk.l0] at H
      by_cases c26 : x14_2 < (l0.length : Int)
      ·rw [if_pos c26] at H
       have c26b0 : decide (x14_2 < (l0.length : Int)) = true := decide_eq_true c26
       clear c26
       have HC27 := Aside0.mk H
       clear H
       go_upto_region 8 with (fail)
       go_cut [58] (fun v58 wc => ∃ (kq : Nat) (x58_26 : Bool), v58 = .bool x58_26 ∧ Aside0 (spec_KeptAsk.j2 kq l0 a2 a3 x13_2 x14_2 x58_26 t251 t252 t253 t254 t255 = some (r1, r2, r3, r4, r5, r6, r7)) ∧ Aside0 (kq ≤ k2) ∧ Aside0 (Kd.Q k83 83 wc w.heap.size (fun _ => True) u13 x13_2) ∧ Aside0 (wc.heap[gb250]? = some (.cells #[.string x251000_2, .int .i64 x251001_2, .int .i64 x251002_2, .string x251003_2, .int .i64 x251004_2] 26 (0, 0))) ∧ Aside0 (wc.heap[gb257]? = some (.cells #[.string t251, .int .i64 t252, .int .i64 t253, .string t254, .int .i64 t255] 26 (0, 0))) ∧ Aside0 (Below w.heap.size w wc))
       case first =>
        have H := HC27.out
        clear HC27
        by_cases c28 : 0 ≤ x14_2
        ·rw [if_pos c28] at H
         have c28b0 : decide (0 ≤ x14_2) = true := decide_eq_true c28
         clear c28
         (first | rw [c28b0] | (simp only [i64_w, i32_w]; rw [c28b0]) | skip)
         by_cases c29 : ((rd_T83 l0 x14_2).f0.f0).toList = a2.toList
         ·rw [if_pos c29] at H
          have c29b0 : (((rd_T83 l0 x14_2).f0.f0).toList == a2.toList) = true := beq_iff_eq.mpr c29
          have c29b1 : (((rd_T83 l0 x14_2).f0.f0).toList != a2.toList) = false := bne_eq_false_iff_eq.mpr c29
          clear c29
          have H' := Aside0.mk H
          clear H
          have p272 : 0 ≤ (x14_2 : Int) := of_decide_eq_true (z_7)
          have q272 : x14_2 < (l0.length : Int) := of_decide_eq_true (z_7)
          obtain ⟨ad272, e272, hx272_0, hx272_1, hx272_2, hx272_3, hx272_4, hx272_5⟩ := at_T83 HR0.out x14_2 p272 q272
          cases e272
          replace hx272_0 := pw_cell_below HB.out hx272_0
          replace hx272_1 := pw_cell_below HB.out hx272_1
          replace hx272_2 := pw_cell_below HB.out hx272_2
          replace hx272_3 := pw_cell_below HB.out hx272_3
          replace hx272_4 := pw_cell_below HB.out hx272_4
          replace hx272_5 := pw_cell_below HB.out hx272_5
          replace p272 := eq_true p272
          replace q272 := eq_true q272
          have p273 : 0 ≤ (x14_2 : Int) := of_decide_eq_true (z_7)
          have q273 : x14_2 < (l0.length : Int) := of_decide_eq_true (z_7)
          obtain ⟨ad273, e273, hx273_0, hx273_1, hx273_2, hx273_3, hx273_4, hx273_5⟩ := at_T83 HR0.out x14_2 p273 q273
          obtain rfl : ad272 = ad273 := (by injection e273)
          replace hx273_0 := pw_cell_below HB.out hx273_0
          replace hx273_1 := pw_cell_below HB.out hx273_1
          replace hx273_2 := pw_cell_below HB.out hx273_2
          replace hx273_3 := pw_cell_below HB.out hx273_3
          replace hx273_4 := pw_cell_below HB.out hx273_4
          replace hx273_5 := pw_cell_below HB.out hx273_5
          replace p273 := eq_true p273
          replace q273 := eq_true q273
          go_wp2
          go_meet
          case rel => exact ⟨_, (decide (((rd_T83 l0 x14_2).f1) > a3)), (z_3), H', ⟨by have := HJ5.out; have := HK2.out; first | omega | exact Nat.le_refl _⟩, ⟨z_69⟩, ⟨z_61⟩, ⟨z_68⟩, ⟨z_64⟩⟩
         ·rw [if_neg c29] at H
          have c29b0 : (((rd_T83 l0 x14_2).f0.f0).toList == a2.toList) = false := beq_eq_false_iff_ne.mpr c29
          have c29b1 : (((rd_T83 l0 x14_2).f0.f0).toList != a2.toList) = true := bne_iff_ne.mpr c29
          have H' := Aside0.mk H
          clear H
          have p272 : 0 ≤ (x14_2 : Int) := of_decide_eq_true (z_7)
          have q272 : x14_2 < (l0.length : Int) := of_decide_eq_true (z_7)
          obtain ⟨ad272, e272, hx272_0, hx272_1, hx272_2, hx272_3, hx272_4, hx272_5⟩ := at_T83 HR0.out x14_2 p272 q272
          cases e272
          replace hx272_0 := pw_cell_below HB.out hx272_0
          replace hx272_1 := pw_cell_below HB.out hx272_1
          replace hx272_2 := pw_cell_below HB.out hx272_2
          replace hx272_3 := pw_cell_below HB.out hx272_3
          replace hx272_4 := pw_cell_below HB.out hx272_4
          replace hx272_5 := pw_cell_below HB.out hx272_5
          replace p272 := eq_true p272
          replace q272 := eq_true q272
          go_wp2
          go_meet
          case rel => exact ⟨_, (false), (z_3), H', ⟨by have := HJ5.out; have := HK2.out; first | omega | exact Nat.le_refl _⟩, ⟨z_69⟩, ⟨z_61⟩, ⟨z_68⟩, ⟨z_64⟩⟩
        ·rw [if_neg c28] at H
         exact absurd H (z_12)
       case rest =>
        clear HC27
        try clear c1
        try clear c2
        try clear p2
        try clear q2
        try clear hx2
        try clear c3
        try clear c4
        try clear c10
        try clear c13
        try clear c14
        try clear c19
        try clear c22
        try clear c26
        try clear c26b0
        try clear p27
        try clear q27
        try clear hx27
        try clear c28
        try clear c28b0
        try clear c29
        try clear c29b0
        try clear c29b1
        try clear hcz11_0
        try clear hcz11_1
        try clear hcz11_2
        try clear hcz11_3
        try clear hcz11_4
        try clear hcz23_0
        try clear hcz23_1
        try clear hcz23_2
        try clear hcz23_3
        try clear hcz23_4
        try clear hfz11_0
        try clear hfz11_1
        try clear hfz11_2
        try clear hfz11_3
        try clear hfz11_4
        try clear hfz23_0
        try clear hfz23_1
        try clear hfz23_2
        try clear hfz23_3
        try clear hfz23_4
        try clear hx272_0
        try clear hx272_1
        try clear hx272_2
        try clear hx272_3
        try clear hx272_4
        try clear hx272_5
        try clear hx273_0
        try clear hx273_1
        try clear hx273_2
        try clear hx273_3
        try clear hx273_4
        try clear hx273_5
        try clear p2
        try clear p272
        try clear p273
        try clear q272
        try clear q273
        obtain ⟨kq, x58_26, rfl, HA, HJ26, HO_13, BK250, BK257, HB⟩ := hcut
        cases kq with
        | zero => exact absurd HA.out (by simp [spec_KeptAsk.j2])
        | succ kj26 =>
         have H := HA.out
         clear HA
         simp only [spec_KeptAsk.j2] at H
         by_cases c30 : x58_26 = true
         ·subst c30
          rw [if_pos rfl] at H
          obtain ⟨y274, hy274⟩ : ∃ y_ : List (S83), y_ = (([] : List (S83))) := ⟨_, rfl⟩
          replace H : (if y274.length + l0.length < 2199023255552 then (if 0 ≤ x14_2 then (if x14_2 < (l0.length : Int) then (some ((y274 ++ l0), (rd_T83 l0 x14_2).f0.f0, (rd_T83 l0 x14_2).f0.f1, (rd_T83 l0 x14_2).f0.f2, (rd_T83 l0 x14_2).f0.f3, (rd_T83 l0 x14_2).f0.f4, true)) else (none)) else (none)) else (none)) = some (r1, r2, r3, r4, r5, r6, r7) := by first | (rw [hy274]; with_reducible exact H) | (have H2_ := (Option.bind_some _ _).symm.trans H; rw [hy274]; with_reducible exact H2_) | (have H2_ := (Option.bind_some _ _).symm.trans H; with_reducible exact H2_) | with_reducible exact H | (rw [hy274]; exact H) | exact H
          have Ny274 := Aside0.mk hy274
          clear hy274
          by_cases c31 : y274.length + l0.length < 2199023255552
          ·rw [if_pos c31] at H
           have LMc31 := Aside0.mk c31
           clear c31
           obtain ⟨y277, hy277⟩ : ∃ y_ : List (S83), y_ = (y274 ++ l0) := ⟨_, rfl⟩
           replace H : (if 0 ≤ x14_2 then (if x14_2 < (l0.length : Int) then (some (y277, (rd_T83 l0 x14_2).f0.f0, (rd_T83 l0 x14_2).f0.f1, (rd_T83 l0 x14_2).f0.f2, (rd_T83 l0 x14_2).f0.f3, (rd_T83 l0 x14_2).f0.f4, true)) else (none)) else (none)) = some (r1, r2, r3, r4, r5, r6, r7) := by first | (rw [hy277]; with_reducible exact H) | (have H2_ := (Option.bind_some _ _).symm.trans H; rw [hy277]; with_reducible exact H2_) | (have H2_ := (Option.bind_some _ _).symm.trans H; with_reducible exact H2_) | with_reducible exact H | (rw [hy277]; exact H) | exact H
           have Ny277 := Aside0.mk hy277
           clear hy277
           by_cases c32 : 0 ≤ x14_2
           ·rw [if_pos c32] at H
            have c32b0 : decide (0 ≤ x14_2) = true := decide_eq_true c32
            clear c32
            by_cases c33 : x14_2 < (l0.length : Int)
            ·rw [if_pos c33] at H
             have c33b0 : decide (x14_2 < (l0.length : Int)) = true := decide_eq_true c33
             clear c33
             simp only [Option.some.injEq, Prod.mk.injEq] at H
             obtain ⟨rfl, rfl, rfl, rfl, rfl, rfl, rfl⟩ := H
             try go_wp2
             have n0_ := Aside0.mk (Kd.Q_drew HO_13.out)
             have n1_ := Aside0.mk (blk_drew BK250.out)
             have n2_ := Aside0.mk (blk_drew BK257.out)
             have n3_ := Aside0.mk (below_drew1 HB.out)
             clear HO_13
             clear BK250
             clear BK257
             clear HB
             have HO_13 := n0_
             have BK250 := n1_
             have BK257 := n2_
             have HB := n3_
             clear n0_ n1_ n2_ n3_
             have p280 : 0 ≤ (x14_2 : Int) := of_decide_eq_true (z_7)
             have q280 : x14_2 < (l0.length : Int) := of_decide_eq_true (z_7)
             obtain ⟨ad280, e280, hx280_0, hx280_1, hx280_2, hx280_3, hx280_4, hx280_5⟩ := at_T83 HR0.out x14_2 p280 q280
             have hw280_5 := hx280_5
             have hw280_4 := hx280_4
             have hw280_3 := hx280_3
             have hw280_2 := hx280_2
             have hw280_1 := hx280_1
             have hw280_0 := hx280_0
             cases e280
             replace hx280_0 := pw_cell_below HB.out hx280_0
             replace hx280_1 := pw_cell_below HB.out hx280_1
             replace hx280_2 := pw_cell_below HB.out hx280_2
             replace hx280_3 := pw_cell_below HB.out hx280_3
             replace hx280_4 := pw_cell_below HB.out hx280_4
             replace hx280_5 := pw_cell_below HB.out hx280_5
             replace p280 := eq_true p280
             replace q280 := eq_true q280
             refine start_ (n := 11) (S := fun w' => w'.cell? (ad280.add ((x14_2).toNat * 6)) = some (.string ((rd_T83 l0 x14_2).f0.f0)) ∧ w'.cell? ⟨(ad280.add ((x14_2).toNat * 6)).block, (ad280.add ((x14_2).toNat * 6)).off + 1, none⟩ = some (.int .i64 ((rd_T83 l0 x14_2).f0.f1)) ∧ w'.cell? ⟨(ad280.add ((x14_2).toNat * 6)).block, (ad280.add ((x14_2).toNat * 6)).off + 2, none⟩ = some (.int .i64 ((rd_T83 l0 x14_2).f0.f2)) ∧ w'.cell? ⟨(ad280.add ((x14_2).toNat * 6)).block, (ad280.add ((x14_2).toNat * 6)).off + 3, none⟩ = some (.string ((rd_T83 l0 x14_2).f0.f3)) ∧ w'.cell? ⟨(ad280.add ((x14_2).toNat * 6)).block, (ad280.add ((x14_2).toNat * 6)).off + 4, none⟩ = some (.int .i64 ((rd_T83 l0 x14_2).f0.f4)) ∧ w'.cell? ⟨(ad280.add ((x14_2).toNat * 6)).block, (ad280.add ((x14_2).toNat * 6)).off + 5, none⟩ = some (.int .i64 ((rd_T83 l0 x14_2).f1))) (ds := []) #[F,F,F,F,F,F,F,F,F,F,F] (z_0) rfl rfl ⟨(pw_cell_below HB.out hw280_0), (pw_cell_below HB.out hw280_1), (pw_cell_below HB.out hw280_2), (pw_cell_below HB.out hw280_3), (pw_cell_below HB.out hw280_4), (pw_cell_below HB.out hw280_5)⟩ (fun hHeld => ?_); refine with_tabW spec_KeptAsk.tab9 spec_KeptAsk.bits9 (fun HT_ HW_ => ?_)
             generalize wc.drew = w34 at HO_13 BK250 BK257 HB hx280_0 hx280_1 hx280_2 hx280_3 hx280_4 hx280_5 hHeld ⊢
             refine pure_ (i := 1) (N := some 60) (v := ?_) (a' := ?_) #[F,T,F,F,F,F,F,F,F,F,F] rfl rfl (any_of HT_.out (z_0)) (fun _ _ _ h => h) (Or.inl ⟨z_1, ?_⟩) ?_ ?_
             rotate_left
             ·intro w'
              go_simp
              with_reducible rfl
             rotate_left
             ·simp only [Act.put, List.setIfInBounds_toArray, List.set_cons_zero, List.set_cons_succ, i64_w, i32_w]
              rfl
             refine pure_ (i := 3) (N := some 62) (v := ?_) (a' := ?_) #[F,T,F,T,F,F,F,F,F,F,F] rfl rfl (any_of HT_.out (z_0)) (fun _ _ _ h => h) (Or.inl ⟨z_1, ?_⟩) ?_ ?_
             rotate_left
             ·intro w'
              go_simp
              with_reducible rfl
             rotate_left
             ·simp only [Act.put, List.setIfInBounds_toArray, List.set_cons_zero, List.set_cons_succ, i64_w, i32_w]
              rfl
             refine pure_ (i := 4) (N := some 63) (v := ?_) (a' := ?_) #[F,T,F,T,T,F,F,F,F,F,F] rfl rfl (any_of HT_.out (z_0)) (fun _ _ _ h => h) (Or.inl ⟨z_1, ?_⟩) ?_ ?_
             rotate_left
             ·intro w'
              go_simp
              with_reducible rfl
             rotate_left
             ·simp only [Act.put, List.setIfInBounds_toArray, List.set_cons_zero, List.set_cons_succ, i64_w, i32_w]
              rfl
             refine pure_ (i := 5) (N := some 64) (v := ?_) (a' := ?_) #[F,T,F,T,T,T,F,F,F,F,F] rfl rfl (any_of HT_.out (z_0)) (fun _ _ _ h => h) (Or.inl ⟨z_1, ?_⟩) ?_ ?_
             rotate_left
             ·intro w'
              go_simp
              with_reducible rfl
             rotate_left
             ·simp only [Act.put, List.setIfInBounds_toArray, List.set_cons_zero, List.set_cons_succ, i64_w, i32_w]
              rfl
             refine pure_ (i := 6) (N := some 65) (v := ?_) (a' := ?_) #[F,T,F,T,T,T,T,F,F,F,F] rfl rfl (any_of HT_.out (z_0)) (fun _ _ _ h => h) (Or.inl ⟨z_1, ?_⟩) ?_ ?_
             rotate_left
             ·intro w'
              go_simp
              with_reducible rfl
             rotate_left
             ·simp only [Act.put, List.setIfInBounds_toArray, List.set_cons_zero, List.set_cons_succ, i64_w, i32_w]
              rfl
             refine take_ (i := 7) (N := some 66) (v := ?_) (a' := ?_) #[F,T,F,T,T,T,T,T,F,F,F] rfl rfl (take_ofW HT_.out HW_.out (z_0)) (fun _ _ _ h => h) (Or.inl ⟨z_1, ?_⟩) hHeld ?_ ?_
             rotate_left
             ·rintro w' ⟨s0, s1, s2, s3, s4, s5⟩
              go_simp
              with_reducible rfl
             rotate_left
             ·simp only [Act.put, List.setIfInBounds_toArray, List.set_cons_zero, List.set_cons_succ, i64_w, i32_w]
              rfl
             refine one_ (i := 0) (N := some 59) #[T,T,F,T,T,T,T,T,F,F,F] rfl rfl (one_of HT_.out (z_0)) (z_5) (fun K hK => ?_)
             refine Kd.R_lit_step k83 _ 83 ?hg (N := 59) ?hd (xs := ([] : List (S83))) (inner := []) (ok := fun _ => True) (okp := fun _ => True) ?hr ?hp (fun _ hk => hk) trivial (Below.refl _ _) (Nat.le_refl _) (z_12) ?_; (case hd => rfl); (case hg => rfl); (case hr => exact z_9); (case hp => exact z_44)
             intro v275 w35 ho36 hb hg_ hnew_
             clear hg_ hnew_
             (first | rw [← Ny274.out] at ho36 | (simp only [Int.reduceToNat] at ho36; rw [← Ny274.out] at ho36))
             have n0_ := Aside0.mk (Kd.Q_elder' (z_69) (Kd.R_base ho36) hb)
             have n1_ := Aside0.mk (Kd.R_lower (Kd.R_new' ho36 (Kd.Q_lt (z_69))) (below_size (z_64)))
             have n2_ := Aside0.mk (blk_below (g := gb250) (o := .cells #[.string x251000_2, .int .i64 x251001_2, .int .i64 x251002_2, .string x251003_2, .int .i64 x251004_2] 26 (0, 0)) (z_61) hb)
             have n3_ := Aside0.mk (blk_below (g := gb257) (o := .cells #[.string t251, .int .i64 t252, .int .i64 t253, .string t254, .int .i64 t255] 26 (0, 0)) (z_68) hb)
             have n4_ := Aside0.mk (below_step (z_64) hb)
             clear HO_13
             clear BK250
             clear BK257
             clear HB
             have HO_13 := n0_
             have HO276 := n1_
             have BK250 := n2_
             have BK257 := n3_
             have HB := n4_
             clear n0_ n1_ n2_ n3_ n4_
             clear hb ho36
             refine hK.out _ _ ⟨(pw_cell_below HB.out hw280_0), (pw_cell_below HB.out hw280_1), (pw_cell_below HB.out hw280_2), (pw_cell_below HB.out hw280_3), (pw_cell_below HB.out hw280_4), (pw_cell_below HB.out hw280_5)⟩ (fun hHeld => ?_)
             clear hK K
             refine norm_ (a' := ?_) ?_ ?_
             rotate_left
             ·show Act.put _ (some 59) _ = _
              simp only [Act.put, List.setIfInBounds_toArray, List.set_cons_zero, List.set_cons_succ, i64_w, i32_w]
              rfl
             refine one_ (i := 2) (N := some 61) #[T,T,T,T,T,T,T,T,F,F,F] rfl rfl (one_of HT_.out (z_0)) (z_5) (fun K hK => ?_)
             refine Kd.R_append_rows_step k83 (w0 := w) w.heap.size (z_1) (.tmp 59) (.tmp 60) 48 83 (.agg #[(.string ⟨#[]⟩), (.int .i64 0), (.int .i64 0), (.string ⟨#[]⟩), (.int .i64 0), (.int .i64 0)]) 64 rfl Try.underlying48 info83 rfl (z_5) (z_6) v275 y274 l0 _ _ _ (fun k_ => some k_ ≠ (u13 : Value).ownBlock) (fun _ => False) rfl rfl ?aO ?aR (fun _ _ h => h) (fun _ h => h.elim) ?aF ?aB ?aS ?aL ?_
             (case aR => exact z_56)
             (case aB => exact z_70)
             (case aF => exact (fun k_ hk => Kd.fresh' (Kd.Q_lt (z_69)) k_ hk))
             (case aO => exact (by (with_reducible repeat (first | apply Kd.R_alloc | apply Kd.R_drewN | apply Kd.R_drew)); exact Kd.R_mono HO276.out (fun _ hk => hk.2)))
             (case aS => exact z_71)
             (case aL => have := LMc31.out; omega)
             intro v278 w37 ho hb hg hat
             rw [← Ny277.out] at ho
             have n0_ := Aside0.mk (Kd.Q_after (ok := (fun _ => True)) (z_69) hg hat)
             have n1_ := Aside0.mk (blk_grown (g := gb250) (o := .cells #[.string x251000_2, .int .i64 x251001_2, .int .i64 x251002_2, .string x251003_2, .int .i64 x251004_2] 26 (0, 0)) (z_61) hg (Kd.R_ne HO276.out BK250.out (z_5)))
             have n2_ := Aside0.mk (blk_grown (g := gb257) (o := .cells #[.string t251, .int .i64 t252, .int .i64 t253, .string t254, .int .i64 t255] 26 (0, 0)) (z_68) hg (Kd.R_ne HO276.out BK257.out (z_5)))
             have n3_ := Aside0.mk (hb)
             have n4_ := Aside0.mk (ho)
             clear HO_13
             clear BK250
             clear BK257
             clear HB
             clear HO276
             have HO_13 := n0_
             have BK250 := n1_
             have BK257 := n2_
             have HB := n3_
             have HO279 := n4_
             clear n0_ n1_ n2_ n3_ n4_
             clear ho hb hg hat
             refine hK.out _ _ ⟨(pw_cell_below HB.out hw280_0), (pw_cell_below HB.out hw280_1), (pw_cell_below HB.out hw280_2), (pw_cell_below HB.out hw280_3), (pw_cell_below HB.out hw280_4), (pw_cell_below HB.out hw280_5)⟩ (fun hHeld => ?_)
             clear hK K
             refine norm_ (a' := ?_) ?_ ?_
             rotate_left
             ·show Act.put _ (some 61) _ = _
              simp only [Act.put, List.setIfInBounds_toArray, List.set_cons_zero, List.set_cons_succ, i64_w, i32_w]
              rfl
             refine pure_ (i := 8) (N := some 8) (v := ?_) (a' := ?_) #[T,T,T,T,T,T,T,T,T,F,F] rfl rfl (any_of HT_.out (z_0)) (fun _ _ _ h => h) (Or.inl ⟨z_1, ?_⟩) ?_ ?_
             rotate_left
             ·intro w'
              go_simp
              with_reducible rfl
             rotate_left
             ·simp only [Act.put, List.setIfInBounds_toArray, List.set_cons_zero, List.set_cons_succ, i64_w, i32_w]
              rfl
             refine one_ (i := 9) (N := none) #[T,T,T,T,T,T,T,T,T,T,F] rfl rfl (one_of HT_.out (z_0)) (z_5) (fun K hK => ?_)
             have hs38 : w37.cell? ⟨gb250, 0, none⟩ = some (.string x251000_2) := (blk_cell BK250.out 0).trans rfl
             have hfs38 := blk_frozen BK250.out 0
             have hns38_1 := NB257_250.out
             have hms38_1 := NB250_257.out
             have hs39 : w37.cell? ⟨gb250, 1, none⟩ = some (.int .i64 x251001_2) := (blk_cell BK250.out 1).trans rfl
             have hfs39 := blk_frozen BK250.out 1
             have hns39_1 := NB257_250.out
             have hms39_1 := NB250_257.out
             have hs40 : w37.cell? ⟨gb250, 2, none⟩ = some (.int .i64 x251002_2) := (blk_cell BK250.out 2).trans rfl
             have hfs40 := blk_frozen BK250.out 2
             have hns40_1 := NB257_250.out
             have hms40_1 := NB250_257.out
             have hs41 : w37.cell? ⟨gb250, 3, none⟩ = some (.string x251003_2) := (blk_cell BK250.out 3).trans rfl
             have hfs41 := blk_frozen BK250.out 3
             have hns41_1 := NB257_250.out
             have hms41_1 := NB250_257.out
             have hs42 : w37.cell? ⟨gb250, 4, none⟩ = some (.int .i64 x251004_2) := (blk_cell BK250.out 4).trans rfl
             have hfs42 := blk_frozen BK250.out 4
             have hns42_1 := NB257_250.out
             have hms42_1 := NB250_257.out
             refine skip_ (w1 := ?_) (z_1) rfl ?_ ?_
             rotate_left
             ·go_simp
              rfl
             refine hK.out _ _ ⟨((cell_far (p := ⟨gb250, _, none⟩) (z_73) _).trans (((cell_far (p := ⟨gb250, _, none⟩) (z_73) _).trans (((cell_far (p := ⟨gb250, _, none⟩) (z_73) _).trans (((cell_far (p := ⟨gb250, _, none⟩) (z_73) _).trans (((cell_far (p := ⟨gb250, _, none⟩) (z_73) _).trans (hHeld.1)))))))))), ((cell_far (p := ⟨gb250, _, none⟩) (z_75) _).trans (((cell_far (p := ⟨gb250, _, none⟩) (z_75) _).trans (((cell_far (p := ⟨gb250, _, none⟩) (z_75) _).trans (((cell_far (p := ⟨gb250, _, none⟩) (z_75) _).trans (((cell_far (p := ⟨gb250, _, none⟩) (z_75) _).trans (hHeld.2.1)))))))))), ((cell_far (p := ⟨gb250, _, none⟩) (z_77) _).trans (((cell_far (p := ⟨gb250, _, none⟩) (z_77) _).trans (((cell_far (p := ⟨gb250, _, none⟩) (z_77) _).trans (((cell_far (p := ⟨gb250, _, none⟩) (z_77) _).trans (((cell_far (p := ⟨gb250, _, none⟩) (z_77) _).trans (hHeld.2.2.1)))))))))), ((cell_far (p := ⟨gb250, _, none⟩) (z_79) _).trans (((cell_far (p := ⟨gb250, _, none⟩) (z_79) _).trans (((cell_far (p := ⟨gb250, _, none⟩) (z_79) _).trans (((cell_far (p := ⟨gb250, _, none⟩) (z_79) _).trans (((cell_far (p := ⟨gb250, _, none⟩) (z_79) _).trans (hHeld.2.2.2.1)))))))))), ((cell_far (p := ⟨gb250, _, none⟩) (z_81) _).trans (((cell_far (p := ⟨gb250, _, none⟩) (z_81) _).trans (((cell_far (p := ⟨gb250, _, none⟩) (z_81) _).trans (((cell_far (p := ⟨gb250, _, none⟩) (z_81) _).trans (((cell_far (p := ⟨gb250, _, none⟩) (z_81) _).trans (hHeld.2.2.2.2.1)))))))))), ((cell_far (p := ⟨gb250, _, none⟩) (z_83) _).trans (((cell_far (p := ⟨gb250, _, none⟩) (z_83) _).trans (((cell_far (p := ⟨gb250, _, none⟩) (z_83) _).trans (((cell_far (p := ⟨gb250, _, none⟩) (z_83) _).trans (((cell_far (p := ⟨gb250, _, none⟩) (z_83) _).trans (hHeld.2.2.2.2.2))))))))))⟩ (fun hHeld => ?_)
             clear hK K
             refine pure_ (i := 10) (N := some 10) (v := ?_) (a' := ?_) #[T,T,T,T,T,T,T,T,T,T,T] rfl rfl (any_of HT_.out (z_0)) (fun _ _ _ h => h) (Or.inl ⟨z_1, ?_⟩) ?_ ?_
             rotate_left
             ·intro w'
              go_simp
              with_reducible rfl
             rotate_left
             ·simp only [Act.put, List.setIfInBounds_toArray, List.set_cons_zero, List.set_cons_succ, i64_w, i32_w]
              rfl
             refine done_ (done_of HT_.out (z_0)) ?_
             try go_wp2
             refine bodyPost_ret (results_list (rs := [.tmp 8, .cell 9 26, .tmp 10]) rfl (z_12) (.tmp (.cell gb250 26 #[.string ((rd_T83 l0 x14_2).f0.f0), .int .i64 ((rd_T83 l0 x14_2).f0.f1), .int .i64 ((rd_T83 l0 x14_2).f0.f2), .string ((rd_T83 l0 x14_2).f0.f3), .int .i64 ((rd_T83 l0 x14_2).f0.f4)] (0, 0) _ rfl (by (with_reducible repeat (first | refine blk_drewN ?_ _ | refine blk_drew ?_ | refine blk_alloc ?_ _)); refine blk_put (cs := #[.string ((rd_T83 l0 x14_2).f0.f0), .int .i64 ((rd_T83 l0 x14_2).f0.f1), .int .i64 ((rd_T83 l0 x14_2).f0.f2), .string ((rd_T83 l0 x14_2).f0.f3), .int .i64 x251004_2]) ?_ 4 _ rfl; (with_reducible repeat (first | refine blk_drewN ?_ _ | refine blk_drew ?_ | refine blk_alloc ?_ _)); refine blk_put (cs := #[.string ((rd_T83 l0 x14_2).f0.f0), .int .i64 ((rd_T83 l0 x14_2).f0.f1), .int .i64 ((rd_T83 l0 x14_2).f0.f2), .string x251003_2, .int .i64 x251004_2]) ?_ 3 _ rfl; (with_reducible repeat (first | refine blk_drewN ?_ _ | refine blk_drew ?_ | refine blk_alloc ?_ _)); refine blk_put (cs := #[.string ((rd_T83 l0 x14_2).f0.f0), .int .i64 ((rd_T83 l0 x14_2).f0.f1), .int .i64 x251002_2, .string x251003_2, .int .i64 x251004_2]) ?_ 2 _ rfl; (with_reducible repeat (first | refine blk_drewN ?_ _ | refine blk_drew ?_ | refine blk_alloc ?_ _)); refine blk_put (cs := #[.string ((rd_T83 l0 x14_2).f0.f0), .int .i64 x251001_2, .int .i64 x251002_2, .string x251003_2, .int .i64 x251004_2]) ?_ 1 _ rfl; (with_reducible repeat (first | refine blk_drewN ?_ _ | refine blk_drew ?_ | refine blk_alloc ?_ _)); refine blk_put (cs := #[.string x251000_2, .int .i64 x251001_2, .int .i64 x251002_2, .string x251003_2, .int .i64 x251004_2]) ?_ 0 _ rfl; (with_reducible repeat (first | refine blk_drewN ?_ _ | refine blk_drew ?_ | refine blk_alloc ?_ _)); exact BK250.out) Try.underlying26 rfl (z_0) (.tmp .nil)))) rfl ?_
             exact ⟨_, z_13, Kd.Q_of_R (by (with_reducible repeat (first | apply Kd.R_alloc | apply Kd.R_drewN | apply Kd.R_drew)); exact Kd.R_mono (Kd.R_far (p := ⟨gb250, 4, none⟩) (Kd.R_far (p := ⟨gb250, 3, none⟩) (Kd.R_far (p := ⟨gb250, 2, none⟩) (Kd.R_far (p := ⟨gb250, 1, none⟩) (Kd.R_far (p := ⟨gb250, 0, none⟩) (Kd.R_types HO279.out BK250.out (z_5)) (fun _ hk => hk.2) (.string ((rd_T83 l0 x14_2).f0.f0))) (fun _ hk => hk.2) (.int .i64 ((rd_T83 l0 x14_2).f0.f1))) (fun _ hk => hk.2) (.int .i64 ((rd_T83 l0 x14_2).f0.f2))) (fun _ hk => hk.2) (.string ((rd_T83 l0 x14_2).f0.f3))) (fun _ hk => hk.2) (.int .i64 ((rd_T83 l0 x14_2).f0.f4))) (fun _ hk => trivial)), z_64⟩
            ·rw [if_neg c33] at H
             exact absurd H (z_12)
           ·rw [if_neg c32] at H
            exact absurd H (z_12)
          ·rw [if_neg c31] at H
           exact absurd H (z_12)
         ·replace c30 := Bool.eq_false_iff.mpr c30
          subst c30
          rw [if_neg (show ¬ (false = true) by decide)] at H
          by_cases c43 : 0 ≤ x14_2
          ·rw [if_pos c43] at H
           have c43b0 : decide (0 ≤ x14_2) = true := decide_eq_true c43
           clear c43
           by_cases c44 : x14_2 < (l0.length : Int)
           ·rw [if_pos c44] at H
            have c44b0 : decide (x14_2 < (l0.length : Int)) = true := decide_eq_true c44
            clear c44
            by_cases c45 : ((rd_T83 l0 x14_2).f0.f0).toList = a2.toList
            ·rw [if_pos c45] at H
             have c45b0 : (((rd_T83 l0 x14_2).f0.f0).toList == a2.toList) = true := beq_iff_eq.mpr c45
             have c45b1 : (((rd_T83 l0 x14_2).f0.f0).toList != a2.toList) = false := bne_eq_false_iff_eq.mpr c45
             clear c45
             have H' := Aside0.mk H
             clear H
             have p281 : 0 ≤ (x14_2 : Int) := of_decide_eq_true (z_7)
             have q281 : x14_2 < (l0.length : Int) := of_decide_eq_true (z_7)
             obtain ⟨ad281, e281, hx281_0, hx281_1, hx281_2, hx281_3, hx281_4, hx281_5⟩ := at_T83 HR0.out x14_2 p281 q281
             cases e281
             replace hx281_0 := pw_cell_below HB.out hx281_0
             replace hx281_1 := pw_cell_below HB.out hx281_1
             replace hx281_2 := pw_cell_below HB.out hx281_2
             replace hx281_3 := pw_cell_below HB.out hx281_3
             replace hx281_4 := pw_cell_below HB.out hx281_4
             replace hx281_5 := pw_cell_below HB.out hx281_5
             replace p281 := eq_true p281
             replace q281 := eq_true q281
             go_wp2
             go_roundg kj26
             case measure => have := HJ5.out; have := HK2.out; have := HJ26.out; omega
             case rel => exact ⟨(x13_2), (wrap64 (x14_2 + 1)), (x251000_2), (x251001_2), (x251002_2), (x251003_2), (x251004_2), (z_3), H', ⟨by have := HJ5.out; have := HK2.out; have := HJ26.out; omega⟩, ⟨z_69⟩, ⟨z_61⟩, ⟨z_68⟩, ⟨z_64⟩⟩
            ·rw [if_neg c45] at H
             have c45b0 : (((rd_T83 l0 x14_2).f0.f0).toList == a2.toList) = false := beq_eq_false_iff_ne.mpr c45
             have c45b1 : (((rd_T83 l0 x14_2).f0.f0).toList != a2.toList) = true := bne_iff_ne.mpr c45
             by_cases c46 : x13_2.length < 2199023255552
             ·rw [if_pos c46] at H
              have LMc46 := Aside0.mk c46
              clear c46
              obtain ⟨y283, hy283⟩ : ∃ y_ : List (S83), y_ = (x13_2 ++ [(⟨(⟨(rd_T83 l0 x14_2).f0.f0, (rd_T83 l0 x14_2).f0.f1, (rd_T83 l0 x14_2).f0.f2, (rd_T83 l0 x14_2).f0.f3, (rd_T83 l0 x14_2).f0.f4⟩ : S26), (rd_T83 l0 x14_2).f1⟩ : S83)]) := ⟨_, rfl⟩
              replace H : (spec_KeptAsk.l0 kj26 l0 a2 a3 y283 (wrap64 (x14_2 + 1)) t251 t252 t253 t254 t255) = some (r1, r2, r3, r4, r5, r6, r7) := by first | (rw [hy283]; with_reducible exact H) | (have H2_ := (Option.bind_some _ _).symm.trans H; rw [hy283]; with_reducible exact H2_) | (have H2_ := (Option.bind_some _ _).symm.trans H; with_reducible exact H2_) | with_reducible exact H | (rw [hy283]; exact H) | exact H
              have Ny283 := Aside0.mk hy283
              clear hy283
              have H' := Aside0.mk H
              clear H
              have p281 : 0 ≤ (x14_2 : Int) := of_decide_eq_true (z_7)
              have q281 : x14_2 < (l0.length : Int) := of_decide_eq_true (z_7)
              obtain ⟨ad281, e281, hx281_0, hx281_1, hx281_2, hx281_3, hx281_4, hx281_5⟩ := at_T83 HR0.out x14_2 p281 q281
              cases e281
              replace hx281_0 := pw_cell_below HB.out hx281_0
              replace hx281_1 := pw_cell_below HB.out hx281_1
              replace hx281_2 := pw_cell_below HB.out hx281_2
              replace hx281_3 := pw_cell_below HB.out hx281_3
              replace hx281_4 := pw_cell_below HB.out hx281_4
              replace hx281_5 := pw_cell_below HB.out hx281_5
              replace p281 := eq_true p281
              replace q281 := eq_true q281
              have p282 : 0 ≤ (x14_2 : Int) := of_decide_eq_true (z_7)
              have q282 : x14_2 < (l0.length : Int) := of_decide_eq_true (z_7)
              obtain ⟨ad282, e282, hx282_0, hx282_1, hx282_2, hx282_3, hx282_4, hx282_5⟩ := at_T83 HR0.out x14_2 p282 q282
              obtain rfl : ad281 = ad282 := (by injection e282)
              replace hx282_0 := pw_cell_below HB.out hx282_0
              replace hx282_1 := pw_cell_below HB.out hx282_1
              replace hx282_2 := pw_cell_below HB.out hx282_2
              replace hx282_3 := pw_cell_below HB.out hx282_3
              replace hx282_4 := pw_cell_below HB.out hx282_4
              replace hx282_5 := pw_cell_below HB.out hx282_5
              replace p282 := eq_true p282
              replace q282 := eq_true q282
              go_wp2_with (first | ((with_reducible refine gate_builtin (b := .append) (xs := #[.tmp 75, .tmp 80]) rfl ?_); at_builtin; refine Kd.Q_append k83 (w0 := w) w.heap.size rfl (.tmp 75) (.tmp 80) 48 83 (.agg #[(.string ⟨#[]⟩), (.int .i64 0), (.int .i64 0), (.string ⟨#[]⟩), (.int .i64 0), (.int .i64 0)]) 64 rfl Try.underlying48 info83 rfl (z_5) (z_6) u13 x13_2 (⟨(⟨(rd_T83 l0 x14_2).f0.f0, (rd_T83 l0 x14_2).f0.f1, (rd_T83 l0 x14_2).f0.f2, (rd_T83 l0 x14_2).f0.f3, (rd_T83 l0 x14_2).f0.f4⟩ : S26), (rd_T83 l0 x14_2).f1⟩ : S83) [.string ((rd_T83 l0 x14_2).f0.f0), .int .i64 ((rd_T83 l0 x14_2).f0.f1), .int .i64 ((rd_T83 l0 x14_2).f0.f2), .string ((rd_T83 l0 x14_2).f0.f3), .int .i64 ((rd_T83 l0 x14_2).f0.f4), .int .i64 ((rd_T83 l0 x14_2).f1)] (fun _ => True) (fun _ => False) rfl rfl ?aP (fun _ hk => hk.elim) ?aF ?aO ?aB ?aS ?aL ?_; (case aP => exact k83_mkM _ _ _ (⟨(⟨(rd_T83 l0 x14_2).f0.f0, (rd_T83 l0 x14_2).f0.f1, (rd_T83 l0 x14_2).f0.f2, (rd_T83 l0 x14_2).f0.f3, (rd_T83 l0 x14_2).f0.f4⟩ : S26), (rd_T83 l0 x14_2).f1⟩ : S83)); (case aB => exact z_70); (case aF => exact z_52); (case aO => exact z_84); (case aS => exact z_71); (case aL => have := LMc46.out; omega); intro v284 w47 ho hb hg hat; rw [← Ny283.out] at ho; have n0_ := Aside0.mk (blk_grown (g := gb250) (o := .cells #[.string x251000_2, .int .i64 x251001_2, .int .i64 x251002_2, .string x251003_2, .int .i64 x251004_2] 26 (0, 0)) (z_61) hg (Kd.Q_ne HO_13.out BK250.out (z_5))); have n1_ := Aside0.mk (blk_grown (g := gb257) (o := .cells #[.string t251, .int .i64 t252, .int .i64 t253, .string t254, .int .i64 t255] 26 (0, 0)) (z_68) hg (Kd.Q_ne HO_13.out BK257.out (z_5))); have n2_ := Aside0.mk (hb); have n3_ := Aside0.mk (ho); clear BK250; clear BK257; clear HB; clear HO_13; have BK250 := n0_; have BK257 := n1_; have HB := n2_; have HO285 := n3_; clear n0_ n1_ n2_ n3_; clear ho hb hg hat))
              go_roundg kj26
              case measure => have := HJ5.out; have := HK2.out; have := HJ26.out; omega
              case rel => exact ⟨(y283), (wrap64 (x14_2 + 1)), (x251000_2), (x251001_2), (x251002_2), (x251003_2), (x251004_2), (z_3), H', ⟨by have := HJ5.out; have := HK2.out; have := HJ26.out; omega⟩, ⟨by (with_reducible repeat (first | apply Kd.Q_alloc | apply Kd.Q_drewN | apply Kd.Q_drew)); exact HO285.out⟩, ⟨z_61⟩, ⟨z_68⟩, ⟨z_64⟩⟩
             ·rw [if_neg c46] at H
              exact absurd H (z_12)
           ·rw [if_neg c44] at H
            exact absurd H (z_12)
          ·rw [if_neg c43] at H
           exact absurd H (z_12)
      ·rw [if_neg c26] at H
       have c26b0 : decide (x14_2 < (l0.length : Int)) = false := decide_eq_false c26
       clear c26
       by_cases c48 : x13_2.length < 2199023255552
       ·rw [if_pos c48] at H
        have LMc48 := Aside0.mk c48
        clear c48
        obtain ⟨y266, hy266⟩ : ∃ y_ : List (S83), y_ = (x13_2 ++ [(⟨(⟨t251, t252, t253, t254, t255⟩ : S26), wrap64 (a3 + t255)⟩ : S83)]) := ⟨_, rfl⟩
        replace H : (if (y266.length : Int) > 5 then (if 1 ≤ (y266.length : Int) then (some ((y266.drop (1 : Int).toNat), t251, t252, t253, t254, t255, false)) else (none)) else (some (y266, t251, t252, t253, t254, t255, false))) = some (r1, r2, r3, r4, r5, r6, r7) := by first | (rw [hy266]; with_reducible exact H) | (have H2_ := (Option.bind_some _ _).symm.trans H; rw [hy266]; with_reducible exact H2_) | (have H2_ := (Option.bind_some _ _).symm.trans H; with_reducible exact H2_) | with_reducible exact H | (rw [hy266]; exact H) | exact H
        have Ny266 := Aside0.mk hy266
        clear hy266
        by_cases c49 : (y266.length : Int) > 5
        ·rw [if_pos c49] at H
         have c49b0 : decide (5 < (y266.length : Int)) = true := decide_eq_true c49
         have c49b1 : decide (5 < y266.length) = true := decide_eq_true (z_6)
         clear c49
         by_cases c50 : 1 ≤ (y266.length : Int)
         ·rw [if_pos c50] at H
          have c50b0 := eq_true c50
          have c50b1 : decide (1 ≤ (y266.length : Int)) = true := decide_eq_true c50
          clear c50
          obtain ⟨y269, hy269⟩ : ∃ y_ : List (S83), y_ = (y266.drop (1 : Int).toNat) := ⟨_, rfl⟩
          replace H : (some (y269, t251, t252, t253, t254, t255, false)) = some (r1, r2, r3, r4, r5, r6, r7) := by first | (rw [hy269]; with_reducible exact H) | (have H2_ := (Option.bind_some _ _).symm.trans H; rw [hy269]; with_reducible exact H2_) | (have H2_ := (Option.bind_some _ _).symm.trans H; with_reducible exact H2_) | with_reducible exact H | (rw [hy269]; exact H) | exact H
          have Ny269 := Aside0.mk hy269
          clear hy269
          simp only [Option.some.injEq, Prod.mk.injEq] at H
          obtain ⟨rfl, rfl, rfl, rfl, rfl, rfl, rfl⟩ := H
          have hnb51 := NB257_250.out
          have hnc51 := NB250_257.out
          have hcz52_0 : wr.cell? ⟨gb257, 0, none⟩ = some (.string t251) := (blk_cell BK257.out 0).trans rfl
          have hcz52_1 : wr.cell? ⟨gb257, 1, none⟩ = some (.int .i64 t252) := (blk_cell BK257.out 1).trans rfl
          have hcz52_2 : wr.cell? ⟨gb257, 2, none⟩ = some (.int .i64 t253) := (blk_cell BK257.out 2).trans rfl
          have hcz52_3 : wr.cell? ⟨gb257, 3, none⟩ = some (.string t254) := (blk_cell BK257.out 3).trans rfl
          have hcz52_4 : wr.cell? ⟨gb257, 4, none⟩ = some (.int .i64 t255) := (blk_cell BK257.out 4).trans rfl
          have hfz52_0 := blk_frozen BK257.out 0
          have hfz52_1 := blk_frozen BK257.out 1
          have hfz52_2 := blk_frozen BK257.out 2
          have hfz52_3 := blk_frozen BK257.out 3
          have hfz52_4 := blk_frozen BK257.out 4
          try go_wp2_with (first | ((with_reducible refine gate_builtin (b := .append) (xs := #[.tmp 82, .tmp 89]) rfl ?_); at_builtin; refine Kd.Q_append k83 (w0 := w) w.heap.size rfl (.tmp 82) (.tmp 89) 48 83 (.agg #[(.string ⟨#[]⟩), (.int .i64 0), (.int .i64 0), (.string ⟨#[]⟩), (.int .i64 0), (.int .i64 0)]) 64 rfl Try.underlying48 info83 rfl (z_5) (z_6) u13 x13_2 (⟨(⟨t251, t252, t253, t254, t255⟩ : S26), wrap64 (a3 + t255)⟩ : S83) [.string t251, .int .i64 t252, .int .i64 t253, .string t254, .int .i64 t255, .int .i64 (wrap64 (a3 + t255))] (fun _ => True) (fun _ => False) rfl rfl ?aP (fun _ hk => hk.elim) ?aF ?aO ?aB ?aS ?aL ?_; (case aP => exact k83_mkM _ _ _ (⟨(⟨t251, t252, t253, t254, t255⟩ : S26), wrap64 (a3 + t255)⟩ : S83)); (case aB => exact z_70); (case aF => exact z_52); (case aO => exact z_84); (case aS => exact z_71); (case aL => have := LMc48.out; omega); intro v267 w53 ho hb hg hat; rw [← Ny266.out] at ho; have n0_ := Aside0.mk (blk_grown (g := gb250) (o := .cells #[.string x251000_2, .int .i64 x251001_2, .int .i64 x251002_2, .string x251003_2, .int .i64 x251004_2] 26 (0, 0)) (z_61) hg (Kd.Q_ne HO_13.out BK250.out (z_5))); have n1_ := Aside0.mk (blk_grown (g := gb257) (o := .cells #[.string t251, .int .i64 t252, .int .i64 t253, .string t254, .int .i64 t255] 26 (0, 0)) (z_68) hg (Kd.Q_ne HO_13.out BK257.out (z_5))); have n2_ := Aside0.mk (hb); have n3_ := Aside0.mk (ho); clear BK250; clear BK257; clear HB; clear HO_13; have BK250 := n0_; have BK257 := n1_; have HB := n2_; have HO268 := n3_; clear n0_ n1_ n2_ n3_; clear ho hb hg hat; obtain ⟨Ao54, co54, eo54, _⟩ := Kd.Q_slice HO268.out; subst eo54; have q55 : (1 : Int) ≤ ((y266.length : Int) : Int) := of_decide_eq_true (z_7); obtain ⟨i055, hi055, _, hsz55, _⟩ := info_parts info83; have hcut55 := cut_from (P := Try.prog) 48 83 .i64 Try.underlying48 hi055 6 hsz55 Ao54 y266.length co54 1 (z_6) q55; have hr55 := Kd.Q_drop (k := (1 : Int).toNat) HO268.out (z_6); obtain ⟨A55, hA55⟩ : ∃ A1, A1 = (if co54 = (1 : Int).toNat then Ao54 else (Ao54 : Option Addr).map (·.add ((1 : Int).toNat * 6))) := ⟨_, rfl⟩; obtain ⟨c55, hc55⟩ : ∃ c1, c1 = co54 - (1 : Int).toNat := ⟨_, rfl⟩; have hy55 : y269.length = y266.length - (1 : Int).toNat := (by rw [Ny269.out, List.length_drop]); rw [← Ny269.out] at hr55; rw [← hy55, ← hA55, ← hc55] at hcut55; replace hr55 : Kd.Q k83 83 w53 w.heap.size (fun _ => True) (.slice A55 y269.length c55) y269 := (by rw [hA55, hc55, hy55]; exact hr55); have HE55 : Aside0 ((Value.slice A55 y269.length c55).ownBlock = (.slice Ao54 y266.length co54 : Value).ownBlock) := ⟨by rw [hA55]; split <;> (cases (Ao54 : Option Addr) <;> rfl)⟩; clear hy55 hi055 hsz55 HO268 hA55 hc55; have HO271 := Aside0.mk hr55; clear hr55; replace q55 := eq_true q55))
          have n0_ := Aside0.mk (Kd.Q_drew HO271.out)
          have n1_ := Aside0.mk (blk_drew BK250.out)
          have n2_ := Aside0.mk (blk_drew BK257.out)
          have n3_ := Aside0.mk (below_drew1 HB.out)
          clear HO271
          clear BK250
          clear BK257
          clear HB
          have HO271 := n0_
          have BK250 := n1_
          have BK257 := n2_
          have HB := n3_
          clear n0_ n1_ n2_ n3_
          refine start_ (n := 5) (S := fun w' => w'.cell? ⟨gb257, 0, none⟩ = some (.string t251) ∧ w'.cell? ⟨gb257, 1, none⟩ = some (.int .i64 t252) ∧ w'.cell? ⟨gb257, 2, none⟩ = some (.int .i64 t253) ∧ w'.cell? ⟨gb257, 3, none⟩ = some (.string t254) ∧ w'.cell? ⟨gb257, 4, none⟩ = some (.int .i64 t255)) (ds := []) #[F,F,F,F,F] (z_0) rfl rfl ⟨(blk_cell BK257.out 0).trans rfl, (blk_cell BK257.out 1).trans rfl, (blk_cell BK257.out 2).trans rfl, (blk_cell BK257.out 3).trans rfl, (blk_cell BK257.out 4).trans rfl⟩ (fun hHeld => ?_)
          generalize w53.drew = w56 at HO271 BK250 BK257 HB hHeld ⊢
          refine pure_ (i := 0) (N := some 96) (v := ?_) (a' := ?_) #[T,F,F,F,F] rfl rfl (z_0) (fun _ _ _ h => h) (Or.inl ⟨z_1, ?_⟩) ?_ ?_
          rotate_left
          ·intro w'
           go_simp
           with_reducible rfl
          rotate_left
          ·simp only [Act.put, List.setIfInBounds_toArray, List.set_cons_zero, List.set_cons_succ, i64_w, i32_w]
           rfl
          refine pure_ (i := 2) (N := some 8) (v := ?_) (a' := ?_) #[T,F,T,F,F] rfl rfl (z_0) (fun _ _ _ h => h) (Or.inl ⟨z_1, ?_⟩) ?_ ?_
          rotate_left
          ·intro w'
           go_simp
           with_reducible rfl
          rotate_left
          ·simp only [Act.put, List.setIfInBounds_toArray, List.set_cons_zero, List.set_cons_succ, i64_w, i32_w]
           rfl
          refine take_ (i := 1) (N := some 97) (v := ?_) (a' := ?_) #[T,T,T,F,F] rfl rfl (z_0) (fun _ _ _ h => h) (Or.inl ⟨z_1, ?_⟩) hHeld ?_ ?_
          rotate_left
          ·rintro w' ⟨s0, s1, s2, s3, s4⟩
           go_simp
           with_reducible rfl
          rotate_left
          ·simp only [Act.put, List.setIfInBounds_toArray, List.set_cons_zero, List.set_cons_succ, i64_w, i32_w]
           rfl
          refine one_ (i := 3) (N := none) #[T,T,T,T,F] rfl rfl (z_0) (z_5) (fun K hK => ?_)
          have hs57 : w56.cell? ⟨gb250, 0, none⟩ = some (.string x251000_2) := (blk_cell BK250.out 0).trans rfl
          have hfs57 := blk_frozen BK250.out 0
          have hns57_1 := NB257_250.out
          have hms57_1 := NB250_257.out
          have hs58 : w56.cell? ⟨gb250, 1, none⟩ = some (.int .i64 x251001_2) := (blk_cell BK250.out 1).trans rfl
          have hfs58 := blk_frozen BK250.out 1
          have hns58_1 := NB257_250.out
          have hms58_1 := NB250_257.out
          have hs59 : w56.cell? ⟨gb250, 2, none⟩ = some (.int .i64 x251002_2) := (blk_cell BK250.out 2).trans rfl
          have hfs59 := blk_frozen BK250.out 2
          have hns59_1 := NB257_250.out
          have hms59_1 := NB250_257.out
          have hs60 : w56.cell? ⟨gb250, 3, none⟩ = some (.string x251003_2) := (blk_cell BK250.out 3).trans rfl
          have hfs60 := blk_frozen BK250.out 3
          have hns60_1 := NB257_250.out
          have hms60_1 := NB250_257.out
          have hs61 : w56.cell? ⟨gb250, 4, none⟩ = some (.int .i64 x251004_2) := (blk_cell BK250.out 4).trans rfl
          have hfs61 := blk_frozen BK250.out 4
          have hns61_1 := NB257_250.out
          have hms61_1 := NB250_257.out
          refine skip_ (w1 := ?_) (z_1) rfl ?_ ?_
          rotate_left
          ·go_simp
           rfl
          refine hK.out _ _ ⟨((cell_far (p := ⟨gb250, _, none⟩) NB257_250.out _).trans (((cell_far (p := ⟨gb250, _, none⟩) NB257_250.out _).trans (((cell_far (p := ⟨gb250, _, none⟩) NB257_250.out _).trans (((cell_far (p := ⟨gb250, _, none⟩) NB257_250.out _).trans (((cell_far (p := ⟨gb250, _, none⟩) NB257_250.out _).trans (hHeld.1)))))))))), ((cell_far (p := ⟨gb250, _, none⟩) NB257_250.out _).trans (((cell_far (p := ⟨gb250, _, none⟩) NB257_250.out _).trans (((cell_far (p := ⟨gb250, _, none⟩) NB257_250.out _).trans (((cell_far (p := ⟨gb250, _, none⟩) NB257_250.out _).trans (((cell_far (p := ⟨gb250, _, none⟩) NB257_250.out _).trans (hHeld.2.1)))))))))), ((cell_far (p := ⟨gb250, _, none⟩) NB257_250.out _).trans (((cell_far (p := ⟨gb250, _, none⟩) NB257_250.out _).trans (((cell_far (p := ⟨gb250, _, none⟩) NB257_250.out _).trans (((cell_far (p := ⟨gb250, _, none⟩) NB257_250.out _).trans (((cell_far (p := ⟨gb250, _, none⟩) NB257_250.out _).trans (hHeld.2.2.1)))))))))), ((cell_far (p := ⟨gb250, _, none⟩) NB257_250.out _).trans (((cell_far (p := ⟨gb250, _, none⟩) NB257_250.out _).trans (((cell_far (p := ⟨gb250, _, none⟩) NB257_250.out _).trans (((cell_far (p := ⟨gb250, _, none⟩) NB257_250.out _).trans (((cell_far (p := ⟨gb250, _, none⟩) NB257_250.out _).trans (hHeld.2.2.2.1)))))))))), ((cell_far (p := ⟨gb250, _, none⟩) NB257_250.out _).trans (((cell_far (p := ⟨gb250, _, none⟩) NB257_250.out _).trans (((cell_far (p := ⟨gb250, _, none⟩) NB257_250.out _).trans (((cell_far (p := ⟨gb250, _, none⟩) NB257_250.out _).trans (((cell_far (p := ⟨gb250, _, none⟩) NB257_250.out _).trans (hHeld.2.2.2.2))))))))))⟩ (fun hHeld => ?_)
          clear hK K
          refine pure_ (i := 4) (N := some 10) (v := ?_) (a' := ?_) #[T,T,T,T,T] rfl rfl (z_0) (fun _ _ _ h => h) (Or.inl ⟨z_1, ?_⟩) ?_ ?_
          rotate_left
          ·intro w'
           go_simp
           with_reducible rfl
          rotate_left
          ·simp only [Act.put, List.setIfInBounds_toArray, List.set_cons_zero, List.set_cons_succ, i64_w, i32_w]
           rfl
          refine done_ (z_0) ?_
          try go_wp2
          refine bodyPost_ret (results_list (rs := [.tmp 8, .cell 9 26, .tmp 10]) rfl (z_12) (.tmp (.cell gb250 26 #[.string t251, .int .i64 t252, .int .i64 t253, .string t254, .int .i64 t255] (0, 0) _ rfl (z_85) Try.underlying26 rfl (z_0) (.tmp .nil)))) rfl ?_
          exact ⟨_, z_13, by (with_reducible repeat (first | apply Kd.Q_alloc | apply Kd.Q_drewN | apply Kd.Q_drew)); exact Kd.Q_mono (Kd.Q_far (p := ⟨gb250, 4, none⟩) (Kd.Q_far (p := ⟨gb250, 3, none⟩) (Kd.Q_far (p := ⟨gb250, 2, none⟩) (Kd.Q_far (p := ⟨gb250, 1, none⟩) (Kd.Q_far (p := ⟨gb250, 0, none⟩) (Kd.Q_types HO271.out BK250.out (z_5)) (fun _ hk => hk.2) (.string t251)) (fun _ hk => hk.2) (.int .i64 t252)) (fun _ hk => hk.2) (.int .i64 t253)) (fun _ hk => hk.2) (.string t254)) (fun _ hk => hk.2) (.int .i64 t255)) (fun _ hk => trivial), z_64⟩
         ·rw [if_neg c50] at H
          exact absurd H (z_12)
        ·rw [if_neg c49] at H
         have c49b0 : decide (5 < (y266.length : Int)) = false := decide_eq_false c49
         have c49b1 : decide (5 < y266.length) = false := decide_eq_false (z_6)
         clear c49
         simp only [Option.some.injEq, Prod.mk.injEq] at H
         obtain ⟨rfl, rfl, rfl, rfl, rfl, rfl, rfl⟩ := H
         have hnb62 := NB257_250.out
         have hnc62 := NB250_257.out
         have hcz63_0 : wr.cell? ⟨gb257, 0, none⟩ = some (.string t251) := (blk_cell BK257.out 0).trans rfl
         have hcz63_1 : wr.cell? ⟨gb257, 1, none⟩ = some (.int .i64 t252) := (blk_cell BK257.out 1).trans rfl
         have hcz63_2 : wr.cell? ⟨gb257, 2, none⟩ = some (.int .i64 t253) := (blk_cell BK257.out 2).trans rfl
         have hcz63_3 : wr.cell? ⟨gb257, 3, none⟩ = some (.string t254) := (blk_cell BK257.out 3).trans rfl
         have hcz63_4 : wr.cell? ⟨gb257, 4, none⟩ = some (.int .i64 t255) := (blk_cell BK257.out 4).trans rfl
         have hfz63_0 := blk_frozen BK257.out 0
         have hfz63_1 := blk_frozen BK257.out 1
         have hfz63_2 := blk_frozen BK257.out 2
         have hfz63_3 := blk_frozen BK257.out 3
         have hfz63_4 := blk_frozen BK257.out 4
         try go_wp2_with (first | ((with_reducible refine gate_builtin (b := .append) (xs := #[.tmp 82, .tmp 89]) rfl ?_); at_builtin; refine Kd.Q_append k83 (w0 := w) w.heap.size rfl (.tmp 82) (.tmp 89) 48 83 (.agg #[(.string ⟨#[]⟩), (.int .i64 0), (.int .i64 0), (.string ⟨#[]⟩), (.int .i64 0), (.int .i64 0)]) 64 rfl Try.underlying48 info83 rfl (z_5) (z_6) u13 x13_2 (⟨(⟨t251, t252, t253, t254, t255⟩ : S26), wrap64 (a3 + t255)⟩ : S83) [.string t251, .int .i64 t252, .int .i64 t253, .string t254, .int .i64 t255, .int .i64 (wrap64 (a3 + t255))] (fun _ => True) (fun _ => False) rfl rfl ?aP (fun _ hk => hk.elim) ?aF ?aO ?aB ?aS ?aL ?_; (case aP => exact k83_mkM _ _ _ (⟨(⟨t251, t252, t253, t254, t255⟩ : S26), wrap64 (a3 + t255)⟩ : S83)); (case aB => exact z_70); (case aF => exact z_52); (case aO => exact z_84); (case aS => exact z_71); (case aL => have := LMc48.out; omega); intro v267 w64 ho hb hg hat; rw [← Ny266.out] at ho; have n0_ := Aside0.mk (blk_grown (g := gb250) (o := .cells #[.string x251000_2, .int .i64 x251001_2, .int .i64 x251002_2, .string x251003_2, .int .i64 x251004_2] 26 (0, 0)) (z_61) hg (Kd.Q_ne HO_13.out BK250.out (z_5))); have n1_ := Aside0.mk (blk_grown (g := gb257) (o := .cells #[.string t251, .int .i64 t252, .int .i64 t253, .string t254, .int .i64 t255] 26 (0, 0)) (z_68) hg (Kd.Q_ne HO_13.out BK257.out (z_5))); have n2_ := Aside0.mk (hb); have n3_ := Aside0.mk (ho); clear BK250; clear BK257; clear HB; clear HO_13; have BK250 := n0_; have BK257 := n1_; have HB := n2_; have HO268 := n3_; clear n0_ n1_ n2_ n3_; clear ho hb hg hat; obtain ⟨Ao65, co65, eo65, _⟩ := Kd.Q_slice HO268.out; subst eo65))
         have n0_ := Aside0.mk (Kd.Q_drew HO268.out)
         have n1_ := Aside0.mk (blk_drew BK250.out)
         have n2_ := Aside0.mk (blk_drew BK257.out)
         have n3_ := Aside0.mk (below_drew1 HB.out)
         clear HO268
         clear BK250
         clear BK257
         clear HB
         have HO268 := n0_
         have BK250 := n1_
         have BK257 := n2_
         have HB := n3_
         clear n0_ n1_ n2_ n3_
         refine start_ (n := 5) (S := fun w' => w'.cell? ⟨gb257, 0, none⟩ = some (.string t251) ∧ w'.cell? ⟨gb257, 1, none⟩ = some (.int .i64 t252) ∧ w'.cell? ⟨gb257, 2, none⟩ = some (.int .i64 t253) ∧ w'.cell? ⟨gb257, 3, none⟩ = some (.string t254) ∧ w'.cell? ⟨gb257, 4, none⟩ = some (.int .i64 t255)) (ds := []) #[F,F,F,F,F] (z_0) rfl rfl ⟨(blk_cell BK257.out 0).trans rfl, (blk_cell BK257.out 1).trans rfl, (blk_cell BK257.out 2).trans rfl, (blk_cell BK257.out 3).trans rfl, (blk_cell BK257.out 4).trans rfl⟩ (fun hHeld => ?_)
         generalize w64.drew = w66 at HO268 BK250 BK257 HB hHeld ⊢
         refine pure_ (i := 0) (N := some 96) (v := ?_) (a' := ?_) #[T,F,F,F,F] rfl rfl (z_0) (fun _ _ _ h => h) (Or.inl ⟨z_1, ?_⟩) ?_ ?_
         rotate_left
         ·intro w'
          go_simp
          with_reducible rfl
         rotate_left
         ·simp only [Act.put, List.setIfInBounds_toArray, List.set_cons_zero, List.set_cons_succ, i64_w, i32_w]
          rfl
         refine pure_ (i := 2) (N := some 8) (v := ?_) (a' := ?_) #[T,F,T,F,F] rfl rfl (z_0) (fun _ _ _ h => h) (Or.inl ⟨z_1, ?_⟩) ?_ ?_
         rotate_left
         ·intro w'
          go_simp
          with_reducible rfl
         rotate_left
         ·simp only [Act.put, List.setIfInBounds_toArray, List.set_cons_zero, List.set_cons_succ, i64_w, i32_w]
          rfl
         refine take_ (i := 1) (N := some 97) (v := ?_) (a' := ?_) #[T,T,T,F,F] rfl rfl (z_0) (fun _ _ _ h => h) (Or.inl ⟨z_1, ?_⟩) hHeld ?_ ?_
         rotate_left
         ·rintro w' ⟨s0, s1, s2, s3, s4⟩
          go_simp
          with_reducible rfl
         rotate_left
         ·simp only [Act.put, List.setIfInBounds_toArray, List.set_cons_zero, List.set_cons_succ, i64_w, i32_w]
          rfl
         refine one_ (i := 3) (N := none) #[T,T,T,T,F] rfl rfl (z_0) (z_5) (fun K hK => ?_)
         have hs67 : w66.cell? ⟨gb250, 0, none⟩ = some (.string x251000_2) := (blk_cell BK250.out 0).trans rfl
         have hfs67 := blk_frozen BK250.out 0
         have hns67_1 := NB257_250.out
         have hms67_1 := NB250_257.out
         have hs68 : w66.cell? ⟨gb250, 1, none⟩ = some (.int .i64 x251001_2) := (blk_cell BK250.out 1).trans rfl
         have hfs68 := blk_frozen BK250.out 1
         have hns68_1 := NB257_250.out
         have hms68_1 := NB250_257.out
         have hs69 : w66.cell? ⟨gb250, 2, none⟩ = some (.int .i64 x251002_2) := (blk_cell BK250.out 2).trans rfl
         have hfs69 := blk_frozen BK250.out 2
         have hns69_1 := NB257_250.out
         have hms69_1 := NB250_257.out
         have hs70 : w66.cell? ⟨gb250, 3, none⟩ = some (.string x251003_2) := (blk_cell BK250.out 3).trans rfl
         have hfs70 := blk_frozen BK250.out 3
         have hns70_1 := NB257_250.out
         have hms70_1 := NB250_257.out
         have hs71 : w66.cell? ⟨gb250, 4, none⟩ = some (.int .i64 x251004_2) := (blk_cell BK250.out 4).trans rfl
         have hfs71 := blk_frozen BK250.out 4
         have hns71_1 := NB257_250.out
         have hms71_1 := NB250_257.out
         refine skip_ (w1 := ?_) (z_1) rfl ?_ ?_
         rotate_left
         ·go_simp
          rfl
         refine hK.out _ _ ⟨((cell_far (p := ⟨gb250, _, none⟩) NB257_250.out _).trans (((cell_far (p := ⟨gb250, _, none⟩) NB257_250.out _).trans (((cell_far (p := ⟨gb250, _, none⟩) NB257_250.out _).trans (((cell_far (p := ⟨gb250, _, none⟩) NB257_250.out _).trans (((cell_far (p := ⟨gb250, _, none⟩) NB257_250.out _).trans (hHeld.1)))))))))), ((cell_far (p := ⟨gb250, _, none⟩) NB257_250.out _).trans (((cell_far (p := ⟨gb250, _, none⟩) NB257_250.out _).trans (((cell_far (p := ⟨gb250, _, none⟩) NB257_250.out _).trans (((cell_far (p := ⟨gb250, _, none⟩) NB257_250.out _).trans (((cell_far (p := ⟨gb250, _, none⟩) NB257_250.out _).trans (hHeld.2.1)))))))))), ((cell_far (p := ⟨gb250, _, none⟩) NB257_250.out _).trans (((cell_far (p := ⟨gb250, _, none⟩) NB257_250.out _).trans (((cell_far (p := ⟨gb250, _, none⟩) NB257_250.out _).trans (((cell_far (p := ⟨gb250, _, none⟩) NB257_250.out _).trans (((cell_far (p := ⟨gb250, _, none⟩) NB257_250.out _).trans (hHeld.2.2.1)))))))))), ((cell_far (p := ⟨gb250, _, none⟩) NB257_250.out _).trans (((cell_far (p := ⟨gb250, _, none⟩) NB257_250.out _).trans (((cell_far (p := ⟨gb250, _, none⟩) NB257_250.out _).trans (((cell_far (p := ⟨gb250, _, none⟩) NB257_250.out _).trans (((cell_far (p := ⟨gb250, _, none⟩) NB257_250.out _).trans (hHeld.2.2.2.1)))))))))), ((cell_far (p := ⟨gb250, _, none⟩) NB257_250.out _).trans (((cell_far (p := ⟨gb250, _, none⟩) NB257_250.out _).trans (((cell_far (p := ⟨gb250, _, none⟩) NB257_250.out _).trans (((cell_far (p := ⟨gb250, _, none⟩) NB257_250.out _).trans (((cell_far (p := ⟨gb250, _, none⟩) NB257_250.out _).trans (hHeld.2.2.2.2))))))))))⟩ (fun hHeld => ?_)
         clear hK K
         refine pure_ (i := 4) (N := some 10) (v := ?_) (a' := ?_) #[T,T,T,T,T] rfl rfl (z_0) (fun _ _ _ h => h) (Or.inl ⟨z_1, ?_⟩) ?_ ?_
         rotate_left
         ·intro w'
          go_simp
          with_reducible rfl
         rotate_left
         ·simp only [Act.put, List.setIfInBounds_toArray, List.set_cons_zero, List.set_cons_succ, i64_w, i32_w]
          rfl
         refine done_ (z_0) ?_
         try go_wp2
         refine bodyPost_ret (results_list (rs := [.tmp 8, .cell 9 26, .tmp 10]) rfl (z_12) (.tmp (.cell gb250 26 #[.string t251, .int .i64 t252, .int .i64 t253, .string t254, .int .i64 t255] (0, 0) _ rfl (z_85) Try.underlying26 rfl (z_0) (.tmp .nil)))) rfl ?_
         exact ⟨_, z_13, by (with_reducible repeat (first | apply Kd.Q_alloc | apply Kd.Q_drewN | apply Kd.Q_drew)); exact Kd.Q_mono (Kd.Q_far (p := ⟨gb250, 4, none⟩) (Kd.Q_far (p := ⟨gb250, 3, none⟩) (Kd.Q_far (p := ⟨gb250, 2, none⟩) (Kd.Q_far (p := ⟨gb250, 1, none⟩) (Kd.Q_far (p := ⟨gb250, 0, none⟩) (Kd.Q_types HO268.out BK250.out (z_5)) (fun _ hk => hk.2) (.string t251)) (fun _ hk => hk.2) (.int .i64 t252)) (fun _ hk => hk.2) (.int .i64 t253)) (fun _ hk => hk.2) (.string t254)) (fun _ hk => hk.2) (.int .i64 t255)) (fun _ hk => trivial), z_64⟩
       ·rw [if_neg c48] at H
        exact absurd H (z_12)

end Go.Proofs.Ytmgnmgobibpjjaa.GFnKeptFind
