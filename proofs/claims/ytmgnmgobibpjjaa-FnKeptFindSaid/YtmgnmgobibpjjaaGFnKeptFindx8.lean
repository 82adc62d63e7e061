/- What the Go functions that FnKeptFind reaches come to, walked step by step; there is no condition beyond those each statement names. -/
import Derived.Test.YtmgnmgobibpjjaaGFnKeptFindx0
import Derived.Test.YtmgnmgobibpjjaaGFnKeptFindx7
namespace Go.Proofs.Ytmgnmgobibpjjaa.GFnKeptFind
open Go.RowKit Go.Proofs.YtmgnmgobibpjjaaVKeptFind.PrintWords Go.Proofs.YtmgnmgobibpjjaaVKeptFind.PrintLast Go.Proofs.YtmgnmgobibpjjaaVKeptFind.PrintMore
attribute [local go_sem] max2_int min2_int max_two min_two max_three min_three max_four min_four   -- for this text's walks alone
set_option linter.unusedVariables false
set_option linter.unusedSimpArgs false

/-! ### spec_NameOk: function 19 -/
def spec_NameOk.j0 : Nat → Bool → ByteArray → Int → Int → ByteArray → Int → Option (Bool)
 | 0, _, _, _, _, _, _ => none
 | k + 1, x12, x230000, x230001, x230002, x230003, x230004 => if x12 = true then (some false) else (if x230001 = 1 then ((spec_l1In.f x230002 0 65535).bind fun t232 => (if t232 = true then (some (x230003.toList == ([] : List UInt8))) else (some false))) else (if x230001 = 2 then (if x230002 = 0 then ((spec_l19Word.f k x230003).bind fun t233 => (some t233)) else (some false)) else (if x230001 = 0 then (if x230002 = 0 then (some (x230003.toList == ([] : List UInt8))) else (some false)) else (some false))))
def spec_NameOk.f (k : Nat) (a0_0 : ByteArray) (a0_1 : Int) (a0_2 : Int) (a0_3 : ByteArray) (a0_4 : Int) : Option (Bool) := (spec_l19Word.f k a0_0).bind fun t230 => (if t230 = true then ((spec_l1In.f a0_4 1 50).bind fun t231 => (spec_NameOk.j0 k (!t231) a0_0 a0_1 a0_2 a0_3 a0_4)) else (spec_NameOk.j0 k true a0_0 a0_1 a0_2 a0_3 a0_4))
theorem spec_NameOk.mono_l : ∀ k, (∀ y0 y1 y2 y3 y4 y5, LeO (spec_NameOk.j0 k y0 y1 y2 y3 y4 y5) (spec_NameOk.j0 (k + 1) y0 y1 y2 y3 y4 y5))
 | 0 => fun _ _ _ _ _ _ r h => by simp [spec_NameOk.j0] at h
 | k + 1 => by
  have ih0 := spec_NameOk.mono_l k
  ·intro y0 y1 y2 y3 y4 y5
   unfold spec_NameOk.j0
   repeat' first
   | (with_reducible exact ih0 _ _ _ _ _ _)
   | (with_reducible exact spec_l19Word.mono _ _)
   | (with_reducible exact LeO.refl _)
   | (with_reducible exact LeO.none _)
   | (with_reducible refine LeO.ite ?_ ?_)
   | (with_reducible refine LeO.bind ?_ (fun _ => ?_))
   | exact ih0 _ _ _ _ _ _
   | exact spec_l19Word.mono _ _
   | exact LeO.none _
   | refine LeO.ite ?_ ?_
   | refine LeO.bind ?_ (fun _ => ?_)
theorem spec_NameOk.mono : ∀ a0 a1 a2 a3 a4 k, LeO (spec_NameOk.f k a0 a1 a2 a3 a4) (spec_NameOk.f (k + 1) a0 a1 a2 a3 a4) := by
 intro a0 a1 a2 a3 a4 k
 have ih0 := spec_NameOk.mono_l k
 unfold spec_NameOk.f
 repeat' first
   | (with_reducible exact ih0 _ _ _ _ _ _)
   | (with_reducible exact spec_l19Word.mono _ _)
   | (with_reducible exact LeO.refl _)
   | (with_reducible exact LeO.none _)
   | (with_reducible refine LeO.ite ?_ ?_)
   | (with_reducible refine LeO.bind ?_ (fun _ => ?_))
   | exact ih0 _ _ _ _ _ _
   | exact spec_l19Word.mono _ _
   | exact LeO.none _
   | refine LeO.ite ?_ ?_
   | refine LeO.bind ?_ (fun _ => ?_)
set_option maxHeartbeats 8000000 in
set_option maxRecDepth 100000 in
theorem spec_NameOk.calls (k : Nat) (a0_0 : ByteArray) (a0_1 : Int) (a0_2 : Int) (a0_3 : ByteArray) (a0_4 : Int) (r : Bool) (w : World) (h : spec_NameOk.f k a0_0 a0_1 a0_2 a0_3 a0_4 = some r) :
  Calls Try.prog 19 #[.agg #[.string a0_0, .int .i64 a0_1, .int .i64 a0_2, .string a0_3, .int .i64 a0_4]] w fun e w' => e = .returned (.bool r) ∧ Below w.heap.size w w' := by
 have hu26 := Try.underlying26
 have HB := Aside0.mk (Below.refl w.heap.size w)
 have H : ((spec_l19Word.f k a0_0).bind fun t230 => (if t230 = true then ((spec_l1In.f a0_4 1 50).bind fun t231 => (spec_NameOk.j0 k (!t231) a0_0 a0_1 a0_2 a0_3 a0_4)) else (spec_NameOk.j0 k true a0_0 a0_1 a0_2 a0_3 a0_4))) = some r := h
 clear h
 have HC2 := Aside0.mk H
 clear H
 go_enter Try.func19, Try.ntmps19
 go_upto_region 1 with (first | ((with_reducible refine gate_dst (N := 1) rfl ?_); refine box_event ?hg (N := 1) ?hd (cs := #[.string a0_0, .int .i64 a0_1, .int .i64 a0_2, .string a0_3, .int .i64 a0_4]) (t := 26) ?hr ?_; (case hd => rfl); (case hg => rfl); (case hr => exact z_9); intro gb229 hg w3 hbox hb; have n0_ := Aside0.mk (below_step (z_8) hb); have n1_ := Aside0.mk (hbox); have n2_ := Aside0.mk ((z_20 : w.heap.size ≤ gb229)); have n3_ := Aside0.mk ((z_20 : w.heap.size ≤ gb229)); clear HB; have HB := n0_; have BK229 := n1_; have GW229 := n2_; have GE229 := n3_; clear n0_ n1_ n2_ n3_; clear hb hbox hg))
 (try simp only [Act.put, List.setIfInBounds_toArray, List.set_cons_zero, List.set_cons_succ])
 go_cut [12] (fun v12 wc => ∃ (kq : Nat) (x12_1 : Bool), v12 = .bool x12_1 ∧ Aside0 (spec_NameOk.j0 kq x12_1 a0_0 a0_1 a0_2 a0_3 a0_4 = some r) ∧ Aside0 (kq ≤ k) ∧ Aside0 (wc.heap[gb229]? = some (.cells #[.string a0_0, .int .i64 a0_1, .int .i64 a0_2, .string a0_3, .int .i64 a0_4] 26 (0, 0))) ∧ Aside0 (Below w.heap.size w wc))
 case first =>
  have H := HC2.out
  clear HC2
  replace H := Option.bind_eq_some_iff.mp H
  obtain ⟨t230, A40, H⟩ := H
  have A4 := Aside0.mk A40
  clear A40
  by_cases c5 : t230 = true
  ·subst c5
   rw [if_pos rfl] at H
   replace H := Option.bind_eq_some_iff.mp H
   obtain ⟨t231, A60, H⟩ := H
   have A6 := Aside0.mk A60
   clear A60
   have H' := Aside0.mk H
   clear H
   have hcz7_0 : w3.cell? ⟨gb229, 0, none⟩ = some (.string a0_0) := (blk_cell BK229.out 0).trans rfl
   have hcz7_1 : w3.cell? ⟨gb229, 1, none⟩ = some (.int .i64 a0_1) := (blk_cell BK229.out 1).trans rfl
   have hcz7_2 : w3.cell? ⟨gb229, 2, none⟩ = some (.int .i64 a0_2) := (blk_cell BK229.out 2).trans rfl
   have hcz7_3 : w3.cell? ⟨gb229, 3, none⟩ = some (.string a0_3) := (blk_cell BK229.out 3).trans rfl
   have hcz7_4 : w3.cell? ⟨gb229, 4, none⟩ = some (.int .i64 a0_4) := (blk_cell BK229.out 4).trans rfl
   have hfz7_0 := blk_frozen BK229.out 0
   have hfz7_1 := blk_frozen BK229.out 1
   have hfz7_2 := blk_frozen BK229.out 2
   have hfz7_3 := blk_frozen BK229.out 3
   have hfz7_4 := blk_frozen BK229.out 4
   go_wp2_with (first | ((with_reducible refine gate_callee (f := 54) rfl ?_); refine goesL_ (some 5) rfl rfl Try.func54 (z_0) rfl #[.string a0_0] rfl (z_14) ?_; (with_reducible refine (spec_l19Word.calls k a0_0 true _ A4.out).mono ?_); rintro e w' ⟨rfl, ⟨nd, rfl⟩⟩; refine ⟨_, rfl, ?_⟩) | (go_at_call 55; (with_reducible refine (spec_l1In.calls a0_4 1 50 t231 _ A6.out).mono ?_); rintro e w' ⟨rfl, ⟨nd, rfl⟩⟩))
   go_meet
   case rel => exact ⟨_, (!t231), (z_3), H', ⟨z_23⟩, ⟨z_54⟩, ⟨z_55⟩⟩
  ·replace c5 := Bool.eq_false_iff.mpr c5
   subst c5
   rw [if_neg (show ¬ (false = true) by decide)] at H
   have H' := Aside0.mk H
   clear H
   have hcz8_0 : w3.cell? ⟨gb229, 0, none⟩ = some (.string a0_0) := (blk_cell BK229.out 0).trans rfl
   have hcz8_1 : w3.cell? ⟨gb229, 1, none⟩ = some (.int .i64 a0_1) := (blk_cell BK229.out 1).trans rfl
   have hcz8_2 : w3.cell? ⟨gb229, 2, none⟩ = some (.int .i64 a0_2) := (blk_cell BK229.out 2).trans rfl
   have hcz8_3 : w3.cell? ⟨gb229, 3, none⟩ = some (.string a0_3) := (blk_cell BK229.out 3).trans rfl
   have hcz8_4 : w3.cell? ⟨gb229, 4, none⟩ = some (.int .i64 a0_4) := (blk_cell BK229.out 4).trans rfl
   have hfz8_0 := blk_frozen BK229.out 0
   have hfz8_1 := blk_frozen BK229.out 1
   have hfz8_2 := blk_frozen BK229.out 2
   have hfz8_3 := blk_frozen BK229.out 3
   have hfz8_4 := blk_frozen BK229.out 4
   go_wp2_with (first | ((with_reducible refine gate_callee (f := 54) rfl ?_); refine goesL_ (some 5) rfl rfl Try.func54 (z_0) rfl #[.string a0_0] rfl (z_14) ?_; (with_reducible refine (spec_l19Word.calls k a0_0 false _ A4.out).mono ?_); rintro e w' ⟨rfl, ⟨nd, rfl⟩⟩; refine ⟨_, rfl, ?_⟩))
   go_meet
   case rel => exact ⟨_, (true), (z_3), H', ⟨z_23⟩, ⟨z_54⟩, ⟨z_55⟩⟩
 case rest =>
  clear HC2
  try clear c1
  try clear p2
  try clear c5
  try clear hcz7_0
  try clear hcz7_1
  try clear hcz7_2
  try clear hcz7_3
  try clear hcz7_4
  try clear hcz8_0
  try clear hcz8_1
  try clear hcz8_2
  try clear hcz8_3
  try clear hcz8_4
  try clear hfz7_0
  try clear hfz7_1
  try clear hfz7_2
  try clear hfz7_3
  try clear hfz7_4
  try clear hfz8_0
  try clear hfz8_1
  try clear hfz8_2
  try clear hfz8_3
  try clear hfz8_4
  obtain ⟨kq, x12_1, rfl, HA, HJ1, BK229, HB⟩ := hcut
  cases kq with
  | zero => exact absurd HA.out (by simp [spec_NameOk.j0])
  | succ kj1 =>
   have H := HA.out
   clear HA
   simp only [spec_NameOk.j0] at H
   by_cases c9 : x12_1 = true
   ·subst c9
    rw [if_pos rfl] at H
    obtain rfl := Option.some.inj H
    go_wp2
    go_ret
    exact ⟨z_13, z_55⟩
   ·replace c9 := Bool.eq_false_iff.mpr c9
    subst c9
    rw [if_neg (show ¬ (false = true) by decide)] at H
    by_cases c10 : a0_1 = 1
    ·rw [if_pos c10] at H
     have c10b0 : (a0_1 == 1) = true := beq_iff_eq.mpr c10
     have c10b1 : (a0_1 != 1) = false := bne_eq_false_iff_eq.mpr c10
     clear c10
     replace H := Option.bind_eq_some_iff.mp H
     obtain ⟨t232, A110, H⟩ := H
     have A11 := Aside0.mk A110
     clear A110
     by_cases c12 : t232 = true
     ·subst c12
      rw [if_pos rfl] at H
      obtain rfl := Option.some.inj H
      have hcz13_0 : wc.cell? ⟨gb229, 0, none⟩ = some (.string a0_0) := (blk_cell BK229.out 0).trans rfl
      have hcz13_1 : wc.cell? ⟨gb229, 1, none⟩ = some (.int .i64 a0_1) := (blk_cell BK229.out 1).trans rfl
      have hcz13_2 : wc.cell? ⟨gb229, 2, none⟩ = some (.int .i64 a0_2) := (blk_cell BK229.out 2).trans rfl
      have hcz13_3 : wc.cell? ⟨gb229, 3, none⟩ = some (.string a0_3) := (blk_cell BK229.out 3).trans rfl
      have hcz13_4 : wc.cell? ⟨gb229, 4, none⟩ = some (.int .i64 a0_4) := (blk_cell BK229.out 4).trans rfl
      have hfz13_0 := blk_frozen BK229.out 0
      have hfz13_1 := blk_frozen BK229.out 1
      have hfz13_2 := blk_frozen BK229.out 2
      have hfz13_3 := blk_frozen BK229.out 3
      have hfz13_4 := blk_frozen BK229.out 4
      go_wp2_with (first | ((with_reducible refine gate_callee (f := 55) rfl ?_); refine goesL_ (some 19) rfl rfl Try.func55 (z_0) rfl #[.int .i64 a0_2, .int .i64 0, .int .i64 65535] rfl (z_14) ?_; (with_reducible refine (spec_l1In.calls a0_2 0 65535 true _ A11.out).mono ?_); rintro e w' ⟨rfl, ⟨nd, rfl⟩⟩; refine ⟨_, rfl, ?_⟩))
      go_ret
      exact ⟨z_13, z_55⟩
     ·replace c12 := Bool.eq_false_iff.mpr c12
      subst c12
      rw [if_neg (show ¬ (false = true) by decide)] at H
      obtain rfl := Option.some.inj H
      have hcz14_0 : wc.cell? ⟨gb229, 0, none⟩ = some (.string a0_0) := (blk_cell BK229.out 0).trans rfl
      have hcz14_1 : wc.cell? ⟨gb229, 1, none⟩ = some (.int .i64 a0_1) := (blk_cell BK229.out 1).trans rfl
      have hcz14_2 : wc.cell? ⟨gb229, 2, none⟩ = some (.int .i64 a0_2) := (blk_cell BK229.out 2).trans rfl
      have hcz14_3 : wc.cell? ⟨gb229, 3, none⟩ = some (.string a0_3) := (blk_cell BK229.out 3).trans rfl
      have hcz14_4 : wc.cell? ⟨gb229, 4, none⟩ = some (.int .i64 a0_4) := (blk_cell BK229.out 4).trans rfl
      have hfz14_0 := blk_frozen BK229.out 0
      have hfz14_1 := blk_frozen BK229.out 1
      have hfz14_2 := blk_frozen BK229.out 2
      have hfz14_3 := blk_frozen BK229.out 3
      have hfz14_4 := blk_frozen BK229.out 4
      go_wp2_with (first | ((with_reducible refine gate_callee (f := 55) rfl ?_); refine goesL_ (some 19) rfl rfl Try.func55 (z_0) rfl #[.int .i64 a0_2, .int .i64 0, .int .i64 65535] rfl (z_14) ?_; (with_reducible refine (spec_l1In.calls a0_2 0 65535 false _ A11.out).mono ?_); rintro e w' ⟨rfl, ⟨nd, rfl⟩⟩; refine ⟨_, rfl, ?_⟩))
      go_ret
      exact ⟨z_13, z_55⟩
    ·rw [if_neg c10] at H
     have c10b0 : (a0_1 == 1) = false := beq_eq_false_iff_ne.mpr c10
     have c10b1 : (a0_1 != 1) = true := bne_iff_ne.mpr c10
     by_cases c15 : a0_1 = 2
     ·rw [if_pos c15] at H
      have c15b0 : (a0_1 == 2) = true := beq_iff_eq.mpr c15
      have c15b1 : (a0_1 != 2) = false := bne_eq_false_iff_eq.mpr c15
      clear c15
      by_cases c16 : a0_2 = 0
      ·rw [if_pos c16] at H
       have c16b0 : (a0_2 == 0) = true := beq_iff_eq.mpr c16
       have c16b1 : (a0_2 != 0) = false := bne_eq_false_iff_eq.mpr c16
       clear c16
       replace H := Option.bind_eq_some_iff.mp H
       obtain ⟨t233, A170, H⟩ := H
       have A17 := Aside0.mk A170
       clear A170
       obtain rfl := Option.some.inj H
       have hcz18_0 : wc.cell? ⟨gb229, 0, none⟩ = some (.string a0_0) := (blk_cell BK229.out 0).trans rfl
       have hcz18_1 : wc.cell? ⟨gb229, 1, none⟩ = some (.int .i64 a0_1) := (blk_cell BK229.out 1).trans rfl
       have hcz18_2 : wc.cell? ⟨gb229, 2, none⟩ = some (.int .i64 a0_2) := (blk_cell BK229.out 2).trans rfl
       have hcz18_3 : wc.cell? ⟨gb229, 3, none⟩ = some (.string a0_3) := (blk_cell BK229.out 3).trans rfl
       have hcz18_4 : wc.cell? ⟨gb229, 4, none⟩ = some (.int .i64 a0_4) := (blk_cell BK229.out 4).trans rfl
       have hfz18_0 := blk_frozen BK229.out 0
       have hfz18_1 := blk_frozen BK229.out 1
       have hfz18_2 := blk_frozen BK229.out 2
       have hfz18_3 := blk_frozen BK229.out 3
       have hfz18_4 := blk_frozen BK229.out 4
       go_wp2_with (first | (go_at_call 54; (with_reducible refine (spec_l19Word.calls kj1 a0_3 t233 _ A17.out).mono ?_); rintro e w' ⟨rfl, ⟨nd, rfl⟩⟩))
       go_ret
       exact ⟨z_13, z_55⟩
      ·rw [if_neg c16] at H
       have c16b0 : (a0_2 == 0) = false := beq_eq_false_iff_ne.mpr c16
       have c16b1 : (a0_2 != 0) = true := bne_iff_ne.mpr c16
       obtain rfl := Option.some.inj H
       have hcz19_0 : wc.cell? ⟨gb229, 0, none⟩ = some (.string a0_0) := (blk_cell BK229.out 0).trans rfl
       have hcz19_1 : wc.cell? ⟨gb229, 1, none⟩ = some (.int .i64 a0_1) := (blk_cell BK229.out 1).trans rfl
       have hcz19_2 : wc.cell? ⟨gb229, 2, none⟩ = some (.int .i64 a0_2) := (blk_cell BK229.out 2).trans rfl
       have hcz19_3 : wc.cell? ⟨gb229, 3, none⟩ = some (.string a0_3) := (blk_cell BK229.out 3).trans rfl
       have hcz19_4 : wc.cell? ⟨gb229, 4, none⟩ = some (.int .i64 a0_4) := (blk_cell BK229.out 4).trans rfl
       have hfz19_0 := blk_frozen BK229.out 0
       have hfz19_1 := blk_frozen BK229.out 1
       have hfz19_2 := blk_frozen BK229.out 2
       have hfz19_3 := blk_frozen BK229.out 3
       have hfz19_4 := blk_frozen BK229.out 4
       go_wp2
       go_ret
       exact ⟨z_13, z_55⟩
     ·rw [if_neg c15] at H
      have c15b0 : (a0_1 == 2) = false := beq_eq_false_iff_ne.mpr c15
      have c15b1 : (a0_1 != 2) = true := bne_iff_ne.mpr c15
      by_cases c20 : a0_1 = 0
      ·rw [if_pos c20] at H
       have c20b0 : (a0_1 == 0) = true := beq_iff_eq.mpr c20
       have c20b1 : (a0_1 != 0) = false := bne_eq_false_iff_eq.mpr c20
       clear c20
       by_cases c21 : a0_2 = 0
       ·rw [if_pos c21] at H
        have c21b0 : (a0_2 == 0) = true := beq_iff_eq.mpr c21
        have c21b1 : (a0_2 != 0) = false := bne_eq_false_iff_eq.mpr c21
        clear c21
        obtain rfl := Option.some.inj H
        have hcz22_0 : wc.cell? ⟨gb229, 0, none⟩ = some (.string a0_0) := (blk_cell BK229.out 0).trans rfl
        have hcz22_1 : wc.cell? ⟨gb229, 1, none⟩ = some (.int .i64 a0_1) := (blk_cell BK229.out 1).trans rfl
        have hcz22_2 : wc.cell? ⟨gb229, 2, none⟩ = some (.int .i64 a0_2) := (blk_cell BK229.out 2).trans rfl
        have hcz22_3 : wc.cell? ⟨gb229, 3, none⟩ = some (.string a0_3) := (blk_cell BK229.out 3).trans rfl
        have hcz22_4 : wc.cell? ⟨gb229, 4, none⟩ = some (.int .i64 a0_4) := (blk_cell BK229.out 4).trans rfl
        have hfz22_0 := blk_frozen BK229.out 0
        have hfz22_1 := blk_frozen BK229.out 1
        have hfz22_2 := blk_frozen BK229.out 2
        have hfz22_3 := blk_frozen BK229.out 3
        have hfz22_4 := blk_frozen BK229.out 4
        go_wp2
        go_ret
        exact ⟨z_13, z_55⟩
       ·rw [if_neg c21] at H
        have c21b0 : (a0_2 == 0) = false := beq_eq_false_iff_ne.mpr c21
        have c21b1 : (a0_2 != 0) = true := bne_iff_ne.mpr c21
        obtain rfl := Option.some.inj H
        have hcz23_0 : wc.cell? ⟨gb229, 0, none⟩ = some (.string a0_0) := (blk_cell BK229.out 0).trans rfl
        have hcz23_1 : wc.cell? ⟨gb229, 1, none⟩ = some (.int .i64 a0_1) := (blk_cell BK229.out 1).trans rfl
        have hcz23_2 : wc.cell? ⟨gb229, 2, none⟩ = some (.int .i64 a0_2) := (blk_cell BK229.out 2).trans rfl
        have hcz23_3 : wc.cell? ⟨gb229, 3, none⟩ = some (.string a0_3) := (blk_cell BK229.out 3).trans rfl
        have hcz23_4 : wc.cell? ⟨gb229, 4, none⟩ = some (.int .i64 a0_4) := (blk_cell BK229.out 4).trans rfl
        have hfz23_0 := blk_frozen BK229.out 0
        have hfz23_1 := blk_frozen BK229.out 1
        have hfz23_2 := blk_frozen BK229.out 2
        have hfz23_3 := blk_frozen BK229.out 3
        have hfz23_4 := blk_frozen BK229.out 4
        go_wp2
        go_ret
        exact ⟨z_13, z_55⟩
      ·rw [if_neg c20] at H
       have c20b0 : (a0_1 == 0) = false := beq_eq_false_iff_ne.mpr c20
       have c20b1 : (a0_1 != 0) = true := bne_iff_ne.mpr c20
       obtain rfl := Option.some.inj H
       have hcz24_0 : wc.cell? ⟨gb229, 0, none⟩ = some (.string a0_0) := (blk_cell BK229.out 0).trans rfl
       have hcz24_1 : wc.cell? ⟨gb229, 1, none⟩ = some (.int .i64 a0_1) := (blk_cell BK229.out 1).trans rfl
       have hcz24_2 : wc.cell? ⟨gb229, 2, none⟩ = some (.int .i64 a0_2) := (blk_cell BK229.out 2).trans rfl
       have hcz24_3 : wc.cell? ⟨gb229, 3, none⟩ = some (.string a0_3) := (blk_cell BK229.out 3).trans rfl
       have hcz24_4 : wc.cell? ⟨gb229, 4, none⟩ = some (.int .i64 a0_4) := (blk_cell BK229.out 4).trans rfl
       have hfz24_0 := blk_frozen BK229.out 0
       have hfz24_1 := blk_frozen BK229.out 1
       have hfz24_2 := blk_frozen BK229.out 2
       have hfz24_3 := blk_frozen BK229.out 3
       have hfz24_4 := blk_frozen BK229.out 4
       go_wp2
       go_ret
       exact ⟨z_13, z_55⟩

end Go.Proofs.Ytmgnmgobibpjjaa.GFnKeptFind
