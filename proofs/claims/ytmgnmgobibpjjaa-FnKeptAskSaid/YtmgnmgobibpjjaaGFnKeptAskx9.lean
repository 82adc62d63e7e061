/- What the Go functions that FnKeptAsk reaches come to, walked step by step; there is no condition beyond those each statement names. -/
import Derived.Test.YtmgnmgobibpjjaaGFnKeptAskx0
import Derived.Test.YtmgnmgobibpjjaaGFnKeptAskx8
namespace Go.Proofs.Ytmgnmgobibpjjaa.GFnKeptAsk
open Go.RowKit Go.Proofs.YtmgnmgobibpjjaaVKeptAsk.PrintWords Go.Proofs.YtmgnmgobibpjjaaVKeptAsk.PrintLast Go.Proofs.YtmgnmgobibpjjaaVKeptAsk.PrintMore
attribute [local go_sem] max2_int min2_int max_two min_two max_three min_three max_four min_four   -- for this text's walks alone
set_option linter.unusedVariables false
set_option linter.unusedSimpArgs false

/-! ### spec_l19Word: function 54 -/
def spec_l19Word.l0 : Nat → ByteArray → Int → Option (Bool)
 | 0, _, _ => none
 | k + 1, x0, x3 => if x3 < (x0.size : Int) then (if 0 ≤ x3 then (if (bt x0 x3) < 97 then (some false) else (if (bt x0 x3) > 122 then (some false) else (spec_l19Word.l0 k x0 (wrap64 (x3 + 1))))) else (none)) else ((spec_l1In.f (x0.size : Int) 1 12).bind fun t232 => (some t232))
def spec_l19Word.f (k : Nat) (a0 : ByteArray) : Option (Bool) := spec_l19Word.l0 k a0 0
theorem spec_l19Word.mono_l : ∀ k, (∀ y0 y1, LeO (spec_l19Word.l0 k y0 y1) (spec_l19Word.l0 (k + 1) y0 y1))
 | 0 => fun _ _ r h => by simp [spec_l19Word.l0] at h
 | k + 1 => by
  have ih0 := spec_l19Word.mono_l k
  ·intro y0 y1
   unfold spec_l19Word.l0
   repeat' first
   | (with_reducible exact ih0 _ _)
   | (with_reducible exact LeO.refl _)
   | (with_reducible exact LeO.none _)
   | (with_reducible refine LeO.ite ?_ ?_)
   | (with_reducible refine LeO.bind ?_ (fun _ => ?_))
   | exact ih0 _ _
   | exact LeO.none _
   | refine LeO.ite ?_ ?_
   | refine LeO.bind ?_ (fun _ => ?_)
theorem spec_l19Word.mono : ∀ a0 k, LeO (spec_l19Word.f k a0) (spec_l19Word.f (k + 1) a0) := by
 intro a0 k
 have ih0 := spec_l19Word.mono_l k
 unfold spec_l19Word.f
 repeat' first
   | (with_reducible exact ih0 _ _)
   | (with_reducible exact LeO.refl _)
   | (with_reducible exact LeO.none _)
   | (with_reducible refine LeO.ite ?_ ?_)
   | (with_reducible refine LeO.bind ?_ (fun _ => ?_))
   | exact ih0 _ _
   | exact LeO.none _
   | refine LeO.ite ?_ ?_
   | refine LeO.bind ?_ (fun _ => ?_)
set_option maxHeartbeats 8000000 in
set_option maxRecDepth 100000 in
theorem spec_l19Word.calls (k : Nat) (a0 : ByteArray) (r : Bool) (w : World) (h : spec_l19Word.f k a0 = some r) :
  Calls Try.prog 54 #[.string a0] w fun e w' => e = .returned (.bool r) ∧ Drawn0 w w' := by
 have H : (spec_l19Word.l0 k a0 0) = some r := h
 clear h
 have H' := Aside0.mk H
 clear H
 go_enter Try.func54, Try.ntmps54
 go_wp2
 go_loopg [3] k (fun kq v3 w' => ∃ (x3_1 : Int), v3 = .int .i64 x3_1 ∧ Aside0 (spec_l19Word.l0 kq a0 x3_1 = some r) ∧ Aside0 (kq ≤ k) ∧ Drawn0 w w')
 case atStart => exact ⟨(0), (z_3), H', ⟨Nat.le_refl _⟩, z_4⟩
 case round =>
  clear H'
  obtain ⟨x3_1, rfl, HA, HK1, ⟨m1, rfl⟩⟩ := hrel
  cases gk with
  | zero => exact absurd HA.out (by simp [spec_l19Word.l0])
  | succ k1 =>
   have H := HA.out
   clear HA
   simp only [spec_l19Word.l0] at H
   by_cases c2 : x3_1 < (a0.size : Int)
   ·rw [if_pos c2] at H
    have c2b0 : decide (x3_1 < (a0.size : Int)) = true := decide_eq_true c2
    clear c2
    by_cases c3 : 0 ≤ x3_1
    ·rw [if_pos c3] at H
     have c3b0 : decide (0 ≤ x3_1) = true := decide_eq_true c3
     clear c3
     by_cases c5 : (bt a0 x3_1) < 97
     ·rw [if_pos c5] at H
      have c5b0 : decide ((bt a0 x3_1) < 97) = true := decide_eq_true c5
      clear c5
      obtain rfl := Option.some.inj H
      have p4 : 0 ≤ (x3_1 : Int) := of_decide_eq_true (z_7)
      have q4 : x3_1 < (a0.size : Int) := of_decide_eq_true (z_7)
      have hx4 := bt_at a0 x3_1
      replace p4 := eq_true p4
      replace q4 := eq_true q4
      go_wp2
      go_ret
      exact ⟨z_3, z_4⟩
     ·rw [if_neg c5] at H
      have c5b0 : decide ((bt a0 x3_1) < 97) = false := decide_eq_false c5
      clear c5
      by_cases c7 : (bt a0 x3_1) > 122
      ·rw [if_pos c7] at H
       have c7b0 : decide (122 < (bt a0 x3_1)) = true := decide_eq_true c7
       clear c7
       obtain rfl := Option.some.inj H
       have p4 : 0 ≤ (x3_1 : Int) := of_decide_eq_true (z_7)
       have q4 : x3_1 < (a0.size : Int) := of_decide_eq_true (z_7)
       have hx4 := bt_at a0 x3_1
       replace p4 := eq_true p4
       replace q4 := eq_true q4
       have p6 : 0 ≤ (x3_1 : Int) := of_decide_eq_true (z_7)
       have q6 : x3_1 < (a0.size : Int) := of_decide_eq_true (z_7)
       have hx6 := bt_at a0 x3_1
       replace p6 := eq_true p6
       replace q6 := eq_true q6
       go_wp2
       go_ret
       exact ⟨z_3, z_4⟩
      ·rw [if_neg c7] at H
       have c7b0 : decide (122 < (bt a0 x3_1)) = false := decide_eq_false c7
       clear c7
       have H' := Aside0.mk H
       clear H
       have p4 : 0 ≤ (x3_1 : Int) := of_decide_eq_true (z_7)
       have q4 : x3_1 < (a0.size : Int) := of_decide_eq_true (z_7)
       have hx4 := bt_at a0 x3_1
       replace p4 := eq_true p4
       replace q4 := eq_true q4
       have p6 : 0 ≤ (x3_1 : Int) := of_decide_eq_true (z_7)
       have q6 : x3_1 < (a0.size : Int) := of_decide_eq_true (z_7)
       have hx6 := bt_at a0 x3_1
       replace p6 := eq_true p6
       replace q6 := eq_true q6
       go_wp2
       go_roundg k1
       case measure => have := HK1.out; omega
       case rel => exact ⟨(wrap64 (x3_1 + 1)), (z_3), H', ⟨z_10⟩, z_4⟩
    ·rw [if_neg c3] at H
     exact absurd H (z_12)
   ·rw [if_neg c2] at H
    have c2b0 : decide (x3_1 < (a0.size : Int)) = false := decide_eq_false c2
    clear c2
    replace H := Option.bind_eq_some_iff.mp H
    obtain ⟨t232, A80, H⟩ := H
    have A8 := Aside0.mk A80
    clear A80
    obtain rfl := Option.some.inj H
    go_wp2_with (first | ((with_reducible refine gate_callee (f := 55) rfl ?_); refine goesL_ (some 22) rfl rfl Try.func55 (z_0) rfl #[.int .i64 (a0.size : Int), .int .i64 1, .int .i64 12] rfl (z_14) ?_; (with_reducible refine (spec_l1In.calls (a0.size : Int) 1 12 t232 _ A8.out).mono ?_); rintro e w' ⟨rfl, ⟨nd, rfl⟩⟩; refine ⟨_, rfl, ?_⟩))
    go_ret
    exact ⟨z_3, z_4⟩

/-! ### spec_NameOk: function 19 -/
def spec_NameOk.j0 : Nat → Bool → ByteArray → Int → Int → ByteArray → Int → Option (Bool)
 | 0, _, _, _, _, _, _ => none
 | k + 1, x12, x234000, x234001, x234002, x234003, x234004 => if x12 = true then (some false) else (if x234001 = 1 then ((spec_l1In.f x234002 0 65535).bind fun t236 => (if t236 = true then (some (x234003.toList == ([] : List UInt8))) else (some false))) else (if x234001 = 2 then (if x234002 = 0 then ((spec_l19Word.f k x234003).bind fun t237 => (some t237)) else (some false)) else (if x234001 = 0 then (if x234002 = 0 then (some (x234003.toList == ([] : List UInt8))) else (some false)) else (some false))))
def spec_NameOk.f (k : Nat) (a0_0 : ByteArray) (a0_1 : Int) (a0_2 : Int) (a0_3 : ByteArray) (a0_4 : Int) : Option (Bool) := (spec_l19Word.f k a0_0).bind fun t234 => (if t234 = true then ((spec_l1In.f a0_4 1 50).bind fun t235 => (spec_NameOk.j0 k (!t235) a0_0 a0_1 a0_2 a0_3 a0_4)) else (spec_NameOk.j0 k true a0_0 a0_1 a0_2 a0_3 a0_4))
theorem spec_NameOk.mono_l : ∀ k, (∀ y0 y1 y2 y3 y4 y5, LeO (spec_NameOk.j0 k y0 y1 y2 y3 y4 y5) (spec_NameOk.j0 (k + 1) y0 y1 y2 y3 y4 y5))
 | 0 => fun _ _ _ _ _ _ r h => by simp [spec_NameOk.j0] at h
 | k + 1 => by
  have ih0 := spec_NameOk.mono_l k
  ·intro y0 y1 y2 y3 y4 y5
   unfold spec_NameOk.j0
   repeat' first
   | (with_reducible exact ih0 _ _ _ _ _ _)
   | (with_reducible exact spec_l19Word.mono _ _)
   | (with_reducible exact LeO.refl _)
   | (with_reducible exact LeO.none _)
   | (with_reducible refine LeO.ite ?_ ?_)
   | (with_reducible refine LeO.bind ?_ (fun _ => ?_))
   | exact ih0 _ _ _ _ _ _
   | exact spec_l19Word.mono _ _
   | exact LeO.none _
   | refine LeO.ite ?_ ?_
   | refine LeO.bind ?_ (fun _ => ?_)
theorem spec_NameOk.mono : ∀ a0 a1 a2 a3 a4 k, LeO (spec_NameOk.f k a0 a1 a2 a3 a4) (spec_NameOk.f (k + 1) a0 a1 a2 a3 a4) := by
 intro a0 a1 a2 a3 a4 k
 have ih0 := spec_NameOk.mono_l k
 unfold spec_NameOk.f
 repeat' first
   | (with_reducible exact ih0 _ _ _ _ _ _)
   | (with_reducible exact spec_l19Word.mono _ _)
   | (with_reducible exact LeO.refl _)
   | (with_reducible exact LeO.none _)
   | (with_reducible refine LeO.ite ?_ ?_)
   | (with_reducible refine LeO.bind ?_ (fun _ => ?_))
   | exact ih0 _ _ _ _ _ _
   | exact spec_l19Word.mono _ _
   | exact LeO.none _
   | refine LeO.ite ?_ ?_
   | refine LeO.bind ?_ (fun _ => ?_)
set_option maxHeartbeats 8000000 in
set_option maxRecDepth 100000 in
theorem spec_NameOk.calls (k : Nat) (a0_0 : ByteArray) (a0_1 : Int) (a0_2 : Int) (a0_3 : ByteArray) (a0_4 : Int) (r : Bool) (w : World) (h : spec_NameOk.f k a0_0 a0_1 a0_2 a0_3 a0_4 = some r) :
  Calls Try.prog 19 #[.agg #[.string a0_0, .int .i64 a0_1, .int .i64 a0_2, .string a0_3, .int .i64 a0_4]] w fun e w' => e = .returned (.bool r) ∧ Below w.heap.size w w' := by
 have hu26 := Try.underlying26
 have HB := Aside0.mk (Below.refl w.heap.size w)
 have H : ((spec_l19Word.f k a0_0).bind fun t234 => (if t234 = true then ((spec_l1In.f a0_4 1 50).bind fun t235 => (spec_NameOk.j0 k (!t235) a0_0 a0_1 a0_2 a0_3 a0_4)) else (spec_NameOk.j0 k true a0_0 a0_1 a0_2 a0_3 a0_4))) = some r := h
 clear h
 have HC2 := Aside0.mk H
 clear H
 go_enter Try.func19, Try.ntmps19
 go_upto_region 1 with (first | ((with_reducible refine gate_dst (N := 1) rfl ?_); refine box_event ?hg (N := 1) ?hd (cs := #[.string a0_0, .int .i64 a0_1, .int .i64 a0_2, .string a0_3, .int .i64 a0_4]) (t := 26) ?hr ?_; (case hd => rfl); (case hg => rfl); (case hr => exact z_9); intro gb233 hg w3 hbox hb; have n0_ := Aside0.mk (below_step (z_8) hb); have n1_ := Aside0.mk (hbox); have n2_ := Aside0.mk ((z_20 : w.heap.size ≤ gb233)); have n3_ := Aside0.mk ((z_20 : w.heap.size ≤ gb233)); clear HB; have HB := n0_; have BK233 := n1_; have GW233 := n2_; have GE233 := n3_; clear n0_ n1_ n2_ n3_; clear hb hbox hg))
 (try simp only [Act.put, List.setIfInBounds_toArray, List.set_cons_zero, List.set_cons_succ])
 go_cut [12] (fun v12 wc => ∃ (kq : Nat) (x12_1 : Bool), v12 = .bool x12_1 ∧ Aside0 (spec_NameOk.j0 kq x12_1 a0_0 a0_1 a0_2 a0_3 a0_4 = some r) ∧ Aside0 (kq ≤ k) ∧ Aside0 (wc.heap[gb233]? = some (.cells #[.string a0_0, .int .i64 a0_1, .int .i64 a0_2, .string a0_3, .int .i64 a0_4] 26 (0, 0))) ∧ Aside0 (Below w.heap.size w wc))
 case first =>
  have H := HC2.out
  clear HC2
  replace H := Option.bind_eq_some_iff.mp H
  obtain ⟨t234, A40, H⟩ := H
  have A4 := Aside0.mk A40
  clear A40
  by_cases c5 : t234 = true
  ·subst c5
   rw [if_pos rfl] at H
   replace H := Option.bind_eq_some_iff.mp H
   obtain ⟨t235, A60, H⟩ := H
   have A6 := Aside0.mk A60
   clear A60
   have H' := Aside0.mk H
   clear H
   have hcz7_0 : w3.cell? ⟨gb233, 0, none⟩ = some (.string a0_0) := (blk_cell BK233.out 0).trans rfl
   have hcz7_1 : w3.cell? ⟨gb233, 1, none⟩ = some (.int .i64 a0_1) := (blk_cell BK233.out 1).trans rfl
   have hcz7_2 : w3.cell? ⟨gb233, 2, none⟩ = some (.int .i64 a0_2) := (blk_cell BK233.out 2).trans rfl
   have hcz7_3 : w3.cell? ⟨gb233, 3, none⟩ = some (.string a0_3) := (blk_cell BK233.out 3).trans rfl
   have hcz7_4 : w3.cell? ⟨gb233, 4, none⟩ = some (.int .i64 a0_4) := (blk_cell BK233.out 4).trans rfl
   have hfz7_0 := blk_frozen BK233.out 0
   have hfz7_1 := blk_frozen BK233.out 1
   have hfz7_2 := blk_frozen BK233.out 2
   have hfz7_3 := blk_frozen BK233.out 3
   have hfz7_4 := blk_frozen BK233.out 4
   go_wp2_with (first | ((with_reducible refine gate_callee (f := 54) rfl ?_); refine goesL_ (some 5) rfl rfl Try.func54 (z_0) rfl #[.string a0_0] rfl (z_14) ?_; (with_reducible refine (spec_l19Word.calls k a0_0 true _ A4.out).mono ?_); rintro e w' ⟨rfl, ⟨nd, rfl⟩⟩; refine ⟨_, rfl, ?_⟩) | (go_at_call 55; (with_reducible refine (spec_l1In.calls a0_4 1 50 t235 _ A6.out).mono ?_); rintro e w' ⟨rfl, ⟨nd, rfl⟩⟩))
   go_meet
   case rel => exact ⟨_, (!t235), (z_3), H', ⟨z_23⟩, ⟨z_66⟩, ⟨z_67⟩⟩
  ·replace c5 := Bool.eq_false_iff.mpr c5
   subst c5
   rw [if_neg (show ¬ (false = true) by decide)] at H
   have H' := Aside0.mk H
   clear H
   have hcz8_0 : w3.cell? ⟨gb233, 0, none⟩ = some (.string a0_0) := (blk_cell BK233.out 0).trans rfl
   have hcz8_1 : w3.cell? ⟨gb233, 1, none⟩ = some (.int .i64 a0_1) := (blk_cell BK233.out 1).trans rfl
   have hcz8_2 : w3.cell? ⟨gb233, 2, none⟩ = some (.int .i64 a0_2) := (blk_cell BK233.out 2).trans rfl
   have hcz8_3 : w3.cell? ⟨gb233, 3, none⟩ = some (.string a0_3) := (blk_cell BK233.out 3).trans rfl
   have hcz8_4 : w3.cell? ⟨gb233, 4, none⟩ = some (.int .i64 a0_4) := (blk_cell BK233.out 4).trans rfl
   have hfz8_0 := blk_frozen BK233.out 0
   have hfz8_1 := blk_frozen BK233.out 1
   have hfz8_2 := blk_frozen BK233.out 2
   have hfz8_3 := blk_frozen BK233.out 3
   have hfz8_4 := blk_frozen BK233.out 4
   go_wp2_with (first | ((with_reducible refine gate_callee (f := 54) rfl ?_); refine goesL_ (some 5) rfl rfl Try.func54 (z_0) rfl #[.string a0_0] rfl (z_14) ?_; (with_reducible refine (spec_l19Word.calls k a0_0 false _ A4.out).mono ?_); rintro e w' ⟨rfl, ⟨nd, rfl⟩⟩; refine ⟨_, rfl, ?_⟩))
   go_meet
   case rel => exact ⟨_, (true), (z_3), H', ⟨z_23⟩, ⟨z_66⟩, ⟨z_67⟩⟩
 case rest =>
  clear HC2
  try clear c1
  try clear p2
  try clear c5
  try clear hcz7_0
  try clear hcz7_1
  try clear hcz7_2
  try clear hcz7_3
  try clear hcz7_4
  try clear hcz8_0
  try clear hcz8_1
  try clear hcz8_2
  try clear hcz8_3
  try clear hcz8_4
  try clear hfz7_0
  try clear hfz7_1
  try clear hfz7_2
  try clear hfz7_3
  try clear hfz7_4
  try clear hfz8_0
  try clear hfz8_1
  try clear hfz8_2
  try clear hfz8_3
  try clear hfz8_4
  obtain ⟨kq, x12_1, rfl, HA, HJ1, BK233, HB⟩ := hcut
  cases kq with
  | zero => exact absurd HA.out (by simp [spec_NameOk.j0])
  | succ kj1 =>
   have H := HA.out
   clear HA
   simp only [spec_NameOk.j0] at H
   by_cases c9 : x12_1 = true
   ·subst c9
    rw [if_pos rfl] at H
    obtain rfl := Option.some.inj H
    go_wp2
    go_ret
    exact ⟨z_13, z_67⟩
   ·replace c9 := Bool.eq_false_iff.mpr c9
    subst c9
    rw [if_neg (show ¬ (false = true) by decide)] at H
    by_cases c10 : a0_1 = 1
    ·rw [if_pos c10] at H
     have c10b0 : (a0_1 == 1) = true := beq_iff_eq.mpr c10
     have c10b1 : (a0_1 != 1) = false := bne_eq_false_iff_eq.mpr c10
     clear c10
     replace H := Option.bind_eq_some_iff.mp H
     obtain ⟨t236, A110, H⟩ := H
     have A11 := Aside0.mk A110
     clear A110
     by_cases c12 : t236 = true
     ·subst c12
      rw [if_pos rfl] at H
      obtain rfl := Option.some.inj H
      have hcz13_0 : wc.cell? ⟨gb233, 0, none⟩ = some (.string a0_0) := (blk_cell BK233.out 0).trans rfl
      have hcz13_1 : wc.cell? ⟨gb233, 1, none⟩ = some (.int .i64 a0_1) := (blk_cell BK233.out 1).trans rfl
      have hcz13_2 : wc.cell? ⟨gb233, 2, none⟩ = some (.int .i64 a0_2) := (blk_cell BK233.out 2).trans rfl
      have hcz13_3 : wc.cell? ⟨gb233, 3, none⟩ = some (.string a0_3) := (blk_cell BK233.out 3).trans rfl
      have hcz13_4 : wc.cell? ⟨gb233, 4, none⟩ = some (.int .i64 a0_4) := (blk_cell BK233.out 4).trans rfl
      have hfz13_0 := blk_frozen BK233.out 0
      have hfz13_1 := blk_frozen BK233.out 1
      have hfz13_2 := blk_frozen BK233.out 2
      have hfz13_3 := blk_frozen BK233.out 3
      have hfz13_4 := blk_frozen BK233.out 4
      go_wp2_with (first | ((with_reducible refine gate_callee (f := 55) rfl ?_); refine goesL_ (some 19) rfl rfl Try.func55 (z_0) rfl #[.int .i64 a0_2, .int .i64 0, .int .i64 65535] rfl (z_14) ?_; (with_reducible refine (spec_l1In.calls a0_2 0 65535 true _ A11.out).mono ?_); rintro e w' ⟨rfl, ⟨nd, rfl⟩⟩; refine ⟨_, rfl, ?_⟩))
      go_ret
      exact ⟨z_13, z_67⟩
     ·replace c12 := Bool.eq_false_iff.mpr c12
      subst c12
      rw [if_neg (show ¬ (false = true) by decide)] at H
      obtain rfl := Option.some.inj H
      have hcz14_0 : wc.cell? ⟨gb233, 0, none⟩ = some (.string a0_0) := (blk_cell BK233.out 0).trans rfl
      have hcz14_1 : wc.cell? ⟨gb233, 1, none⟩ = some (.int .i64 a0_1) := (blk_cell BK233.out 1).trans rfl
      have hcz14_2 : wc.cell? ⟨gb233, 2, none⟩ = some (.int .i64 a0_2) := (blk_cell BK233.out 2).trans rfl
      have hcz14_3 : wc.cell? ⟨gb233, 3, none⟩ = some (.string a0_3) := (blk_cell BK233.out 3).trans rfl
      have hcz14_4 : wc.cell? ⟨gb233, 4, none⟩ = some (.int .i64 a0_4) := (blk_cell BK233.out 4).trans rfl
      have hfz14_0 := blk_frozen BK233.out 0
      have hfz14_1 := blk_frozen BK233.out 1
      have hfz14_2 := blk_frozen BK233.out 2
      have hfz14_3 := blk_frozen BK233.out 3
      have hfz14_4 := blk_frozen BK233.out 4
      go_wp2_with (first | ((with_reducible refine gate_callee (f := 55) rfl ?_); refine goesL_ (some 19) rfl rfl Try.func55 (z_0) rfl #[.int .i64 a0_2, .int .i64 0, .int .i64 65535] rfl (z_14) ?_; (with_reducible refine (spec_l1In.calls a0_2 0 65535 false _ A11.out).mono ?_); rintro e w' ⟨rfl, ⟨nd, rfl⟩⟩; refine ⟨_, rfl, ?_⟩))
      go_ret
      exact ⟨z_13, z_67⟩
    ·rw [if_neg c10] at H
     have c10b0 : (a0_1 == 1) = false := beq_eq_false_iff_ne.mpr c10
     have c10b1 : (a0_1 != 1) = true := bne_iff_ne.mpr c10
     by_cases c15 : a0_1 = 2
     ·rw [if_pos c15] at H
      have c15b0 : (a0_1 == 2) = true := beq_iff_eq.mpr c15
      have c15b1 : (a0_1 != 2) = false := bne_eq_false_iff_eq.mpr c15
      clear c15
      by_cases c16 : a0_2 = 0
      ·rw [if_pos c16] at H
       have c16b0 : (a0_2 == 0) = true := beq_iff_eq.mpr c16
       have c16b1 : (a0_2 != 0) = false := bne_eq_false_iff_eq.mpr c16
       clear c16
       replace H := Option.bind_eq_some_iff.mp H
       obtain ⟨t237, A170, H⟩ := H
       have A17 := Aside0.mk A170
       clear A170
       obtain rfl := Option.some.inj H
       have hcz18_0 : wc.cell? ⟨gb233, 0, none⟩ = some (.string a0_0) := (blk_cell BK233.out 0).trans rfl
       have hcz18_1 : wc.cell? ⟨gb233, 1, none⟩ = some (.int .i64 a0_1) := (blk_cell BK233.out 1).trans rfl
       have hcz18_2 : wc.cell? ⟨gb233, 2, none⟩ = some (.int .i64 a0_2) := (blk_cell BK233.out 2).trans rfl
       have hcz18_3 : wc.cell? ⟨gb233, 3, none⟩ = some (.string a0_3) := (blk_cell BK233.out 3).trans rfl
       have hcz18_4 : wc.cell? ⟨gb233, 4, none⟩ = some (.int .i64 a0_4) := (blk_cell BK233.out 4).trans rfl
       have hfz18_0 := blk_frozen BK233.out 0
       have hfz18_1 := blk_frozen BK233.out 1
       have hfz18_2 := blk_frozen BK233.out 2
       have hfz18_3 := blk_frozen BK233.out 3
       have hfz18_4 := blk_frozen BK233.out 4
       go_wp2_with (first | (go_at_call 54; (with_reducible refine (spec_l19Word.calls kj1 a0_3 t237 _ A17.out).mono ?_); rintro e w' ⟨rfl, ⟨nd, rfl⟩⟩))
       go_ret
       exact ⟨z_13, z_67⟩
      ·rw [if_neg c16] at H
       have c16b0 : (a0_2 == 0) = false := beq_eq_false_iff_ne.mpr c16
       have c16b1 : (a0_2 != 0) = true := bne_iff_ne.mpr c16
       obtain rfl := Option.some.inj H
       have hcz19_0 : wc.cell? ⟨gb233, 0, none⟩ = some (.string a0_0) := (blk_cell BK233.out 0).trans rfl
       have hcz19_1 : wc.cell? ⟨gb233, 1, none⟩ = some (.int .i64 a0_1) := (blk_cell BK233.out 1).trans rfl
       have hcz19_2 : wc.cell? ⟨gb233, 2, none⟩ = some (.int .i64 a0_2) := (blk_cell BK233.out 2).trans rfl
       have hcz19_3 : wc.cell? ⟨gb233, 3, none⟩ = some (.string a0_3) := (blk_cell BK233.out 3).trans rfl
       have hcz19_4 : wc.cell? ⟨gb233, 4, none⟩ = some (.int .i64 a0_4) := (blk_cell BK233.out 4).trans rfl
       have hfz19_0 := blk_frozen BK233.out 0
       have hfz19_1 := blk_frozen BK233.out 1
       have hfz19_2 := blk_frozen BK233.out 2
       have hfz19_3 := blk_frozen BK233.out 3
       have hfz19_4 := blk_frozen BK233.out 4
       go_wp2
       go_ret
       exact ⟨z_13, z_67⟩
     ·rw [if_neg c15] at H
      have c15b0 : (a0_1 == 2) = false := beq_eq_false_iff_ne.mpr c15
      have c15b1 : (a0_1 != 2) = true := bne_iff_ne.mpr c15
      by_cases c20 : a0_1 = 0
      ·rw [if_pos c20] at H
       have c20b0 : (a0_1 == 0) = true := beq_iff_eq.mpr c20
       have c20b1 : (a0_1 != 0) = false := bne_eq_false_iff_eq.mpr c20
       clear c20
       by_cases c21 : a0_2 = 0
       ·rw [if_pos c21] at H
        have c21b0 : (a0_2 == 0) = true := beq_iff_eq.mpr c21
        have c21b1 : (a0_2 != 0) = false := bne_eq_false_iff_eq.mpr c21
        clear c21
        obtain rfl := Option.some.inj H
        have hcz22_0 : wc.cell? ⟨gb233, 0, none⟩ = some (.string a0_0) := (blk_cell BK233.out 0).trans rfl
        have hcz22_1 : wc.cell? ⟨gb233, 1, none⟩ = some (.int .i64 a0_1) := (blk_cell BK233.out 1).trans rfl
        have hcz22_2 : wc.cell? ⟨gb233, 2, none⟩ = some (.int .i64 a0_2) := (blk_cell BK233.out 2).trans rfl
        have hcz22_3 : wc.cell? ⟨gb233, 3, none⟩ = some (.string a0_3) := (blk_cell BK233.out 3).trans rfl
        have hcz22_4 : wc.cell? ⟨gb233, 4, none⟩ = some (.int .i64 a0_4) := (blk_cell BK233.out 4).trans rfl
        have hfz22_0 := blk_frozen BK233.out 0
        have hfz22_1 := blk_frozen BK233.out 1
        have hfz22_2 := blk_frozen BK233.out 2
        have hfz22_3 := blk_frozen BK233.out 3
        have hfz22_4 := blk_frozen BK233.out 4
        go_wp2
        go_ret
        exact ⟨z_13, z_67⟩
       ·rw [if_neg c21] at H
        have c21b0 : (a0_2 == 0) = false := beq_eq_false_iff_ne.mpr c21
        have c21b1 : (a0_2 != 0) = true := bne_iff_ne.mpr c21
        obtain rfl := Option.some.inj H
        have hcz23_0 : wc.cell? ⟨gb233, 0, none⟩ = some (.string a0_0) := (blk_cell BK233.out 0).trans rfl
        have hcz23_1 : wc.cell? ⟨gb233, 1, none⟩ = some (.int .i64 a0_1) := (blk_cell BK233.out 1).trans rfl
        have hcz23_2 : wc.cell? ⟨gb233, 2, none⟩ = some (.int .i64 a0_2) := (blk_cell BK233.out 2).trans rfl
        have hcz23_3 : wc.cell? ⟨gb233, 3, none⟩ = some (.string a0_3) := (blk_cell BK233.out 3).trans rfl
        have hcz23_4 : wc.cell? ⟨gb233, 4, none⟩ = some (.int .i64 a0_4) := (blk_cell BK233.out 4).trans rfl
        have hfz23_0 := blk_frozen BK233.out 0
        have hfz23_1 := blk_frozen BK233.out 1
        have hfz23_2 := blk_frozen BK233.out 2
        have hfz23_3 := blk_frozen BK233.out 3
        have hfz23_4 := blk_frozen BK233.out 4
        go_wp2
        go_ret
        exact ⟨z_13, z_67⟩
      ·rw [if_neg c20] at H
       have c20b0 : (a0_1 == 0) = false := beq_eq_false_iff_ne.mpr c20
       have c20b1 : (a0_1 != 0) = true := bne_iff_ne.mpr c20
       obtain rfl := Option.some.inj H
       have hcz24_0 : wc.cell? ⟨gb233, 0, none⟩ = some (.string a0_0) := (blk_cell BK233.out 0).trans rfl
       have hcz24_1 : wc.cell? ⟨gb233, 1, none⟩ = some (.int .i64 a0_1) := (blk_cell BK233.out 1).trans rfl
       have hcz24_2 : wc.cell? ⟨gb233, 2, none⟩ = some (.int .i64 a0_2) := (blk_cell BK233.out 2).trans rfl
       have hcz24_3 : wc.cell? ⟨gb233, 3, none⟩ = some (.string a0_3) := (blk_cell BK233.out 3).trans rfl
       have hcz24_4 : wc.cell? ⟨gb233, 4, none⟩ = some (.int .i64 a0_4) := (blk_cell BK233.out 4).trans rfl
       have hfz24_0 := blk_frozen BK233.out 0
       have hfz24_1 := blk_frozen BK233.out 1
       have hfz24_2 := blk_frozen BK233.out 2
       have hfz24_3 := blk_frozen BK233.out 3
       have hfz24_4 := blk_frozen BK233.out 4
       go_wp2
       go_ret
       exact ⟨z_13, z_67⟩

end Go.Proofs.Ytmgnmgobibpjjaa.GFnKeptAsk
