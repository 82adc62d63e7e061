/- What the Go functions that FnExactKeptFind reaches come to, walked step by step; there is no condition beyond those each statement names. -/
import Derived.Test.YtmgnmgobibpjjaaGFnExactKeptFindx0
import Derived.Test.YtmgnmgobibpjjaaGFnExactKeptFindx2
namespace Go.Proofs.Ytmgnmgobibpjjaa.GFnExactKeptFind
open Go.RowKit Go.Proofs.YtmgnmgobibpjjaaVExactKeptFind.PrintWords Go.Proofs.YtmgnmgobibpjjaaVExactKeptFind.PrintLast Go.Proofs.YtmgnmgobibpjjaaVExactKeptFind.PrintMore
attribute [local go_sem] max2_int min2_int max_two min_two max_three min_three max_four min_four   -- for this text's walks alone
set_option linter.unusedVariables false
set_option linter.unusedSimpArgs false

/-! ### impl_textOk: function 56 -/
def impl_textOk.l0 : Nat → ByteArray → List Int → Int → Int → Option (Bool)
 | 0, _, _, _, _ => none
 | k + 1, x0, x6, x7, x8 => if x8 < x7 then (if 0 ≤ x8 then (if x8 < (x6.length : Int) then (if (rd x6 x8) < 97 then (some false) else (if (rd x6 x8) > 122 then (some false) else (impl_textOk.l0 k x0 x6 x7 (wrap64 (x8 + 1))))) else (none)) else (none)) else ((impl_in.f (x0.size : Int) 1 12).bind fun t158 => (some t158))
def impl_textOk.f (k : Nat) (a0 : ByteArray) : Option (Bool) := (some (([] : List Int) : List Int)).bind fun y151 => (if y151.length + a0.size < 140737488355328 then ((some (y151 ++ bytesOf a0 : List Int)).bind fun y154 => (impl_textOk.l0 k a0 y154 (y154.length : Int) 0)) else (none))
theorem impl_textOk.mono_l : ∀ k, (∀ y0 y1 y2 y3, LeO (impl_textOk.l0 k y0 y1 y2 y3) (impl_textOk.l0 (k + 1) y0 y1 y2 y3))
 | 0 => fun _ _ _ _ r h => by simp [impl_textOk.l0] at h
 | k + 1 => by
  have ih0 := impl_textOk.mono_l k
  ·intro y0 y1 y2 y3
   unfold impl_textOk.l0
   repeat' first
   | (with_reducible exact ih0 _ _ _ _)
   | (with_reducible exact LeO.refl _)
   | (with_reducible exact LeO.none _)
   | (with_reducible refine LeO.ite ?_ ?_)
   | (with_reducible refine LeO.bind ?_ (fun _ => ?_))
   | exact ih0 _ _ _ _
   | exact LeO.none _
   | refine LeO.ite ?_ ?_
   | refine LeO.bind ?_ (fun _ => ?_)
theorem impl_textOk.mono : ∀ a0 k, LeO (impl_textOk.f k a0) (impl_textOk.f (k + 1) a0) := by
 intro a0 k
 have ih0 := impl_textOk.mono_l k
 unfold impl_textOk.f
 repeat' first
   | (with_reducible exact ih0 _ _ _ _)
   | (with_reducible exact LeO.refl _)
   | (with_reducible exact LeO.none _)
   | (with_reducible refine LeO.ite ?_ ?_)
   | (with_reducible refine LeO.bind ?_ (fun _ => ?_))
   | exact ih0 _ _ _ _
   | exact LeO.none _
   | refine LeO.ite ?_ ?_
   | refine LeO.bind ?_ (fun _ => ?_)
set_option maxHeartbeats 8000000 in
set_option maxRecDepth 100000 in
theorem impl_textOk.calls (k : Nat) (a0 : ByteArray) (r : Bool) (w : World) (h : impl_textOk.f k a0 = some r) :
  Calls Try.prog 56 #[.string a0] w fun e w' => e = .returned (.bool r) ∧ Below w.heap.size w w' := by
 have HB := Aside0.mk (Below.refl w.heap.size w)
 have H : ((some (([] : List Int) : List Int)).bind fun y151 => (if y151.length + a0.size < 140737488355328 then ((some (y151 ++ bytesOf a0 : List Int)).bind fun y154 => (impl_textOk.l0 k a0 y154 (y154.length : Int) 0)) else (none))) = some r := h
 clear h
 obtain ⟨y151, hy151⟩ : ∃ y_ : List Int, y_ = (([] : List Int)) := ⟨_, rfl⟩
 replace H : (if y151.length + a0.size < 140737488355328 then ((some (y151 ++ bytesOf a0 : List Int)).bind fun y154 => (impl_textOk.l0 k a0 y154 (y154.length : Int) 0)) else (none)) = some r := by first | (rw [hy151]; with_reducible exact H) | (have H2_ := (Option.bind_some _ _).symm.trans H; rw [hy151]; with_reducible exact H2_) | (have H2_ := (Option.bind_some _ _).symm.trans H; with_reducible exact H2_) | with_reducible exact H | (rw [hy151]; exact H) | exact H
 have Ny151 := Aside0.mk hy151
 clear hy151
 by_cases c2 : y151.length + a0.size < 140737488355328
 ·rw [if_pos c2] at H
  have LMc2 := Aside0.mk c2
  clear c2
  obtain ⟨y154, hy154⟩ : ∃ y_ : List Int, y_ = (y151 ++ bytesOf a0) := ⟨_, rfl⟩
  replace H : (impl_textOk.l0 k a0 y154 (y154.length : Int) 0) = some r := by first | (rw [hy154]; with_reducible exact H) | (have H2_ := (Option.bind_some _ _).symm.trans H; rw [hy154]; with_reducible exact H2_) | (have H2_ := (Option.bind_some _ _).symm.trans H; with_reducible exact H2_) | with_reducible exact H | (rw [hy154]; exact H) | exact H
  have Ny154 := Aside0.mk hy154
  clear hy154
  have H' := Aside0.mk H
  clear H
  have Hs_ := Aside0.mk (show y154 = bytesOf a0 by rw [Ny154.out, Ny151.out]; rfl)
  have Hl_ := Aside0.mk (show y154.length = a0.size by rw [Hs_.out]; exact bytesOf_length a0)
  go_enter Try.func56, Try.ntmps56
  go_wp2_with (first | ((with_reducible refine gate_dst (N := 6) rfl ?_); refine Kd.C_of_str' (w0 := w) w.heap.size rfl 9 29 5 (.tmp 5) rfl Try.underlying9 Try.underlying29 Try.underlying5 a0 y154 Hs_.out rfl ?aB ?aS (by have := LMc2.out; omega) ?_; (case aB => exact (z_2)); (case aS => exact (below_size (z_2))); intro Ao6 co6 w5 HCs_ ho hb; clear HB; have HO156 := Aside0.mk ho; have HB := Aside0.mk hb; clear ho hb HCs_))
  go_loopg [8] k (fun kq v8 w' => ∃ (x8_1 : Int), v8 = .int .i64 x8_1 ∧ Aside0 (impl_textOk.l0 kq a0 y154 (y154.length : Int) x8_1 = some r) ∧ Aside0 (kq ≤ k) ∧ Aside0 (Kd.C (Kd.int .u8) w' Ao6 y154.length y154) ∧ Aside0 (Below w.heap.size w w'))
  case atStart => exact ⟨(0), (z_6), H', ⟨Nat.le_refl _⟩, ⟨by repeat (first | exact HO156.out | (with_reducible refine Kd.C_alloc ?_ _) | (with_reducible refine Kd.C_drewN ?_ _) | (with_reducible refine Kd.C_drew ?_))⟩, ⟨z_2⟩⟩
  case round =>
   clear H'
   try clear c2
   try clear p2
   try clear c5
   obtain ⟨x8_1, rfl, HA, HK1, HO_6, HB⟩ := hrel
   cases gk with
   | zero => exact absurd HA.out (by simp [impl_textOk.l0])
   | succ k1 =>
    have H := HA.out
    clear HA
    simp only [impl_textOk.l0] at H
    by_cases c7 : x8_1 < (y154.length : Int)
    ·rw [if_pos c7] at H
     have c7b0 : decide (x8_1 < (y154.length : Int)) = true := decide_eq_true c7
     clear c7
     by_cases c8 : 0 ≤ x8_1
     ·rw [if_pos c8] at H
      have c8b0 : decide (0 ≤ x8_1) = true := decide_eq_true c8
      clear c8
      by_cases c9 : x8_1 < (y154.length : Int)
      ·rw [if_pos c9] at H
       have c9b0 : decide (x8_1 < (y154.length : Int)) = true := decide_eq_true c9
       clear c9
       by_cases c10 : (rd y154 x8_1) < 97
       ·rw [if_pos c10] at H
        have c10b0 : decide ((rd y154 x8_1) < 97) = true := decide_eq_true c10
        clear c10
        obtain rfl := Option.some.inj H
        have p157 : 0 ≤ (x8_1 : Int) := of_decide_eq_true (z_7)
        have q157 : x8_1 < (y154.length : Int) := of_decide_eq_true (z_7)
        obtain ⟨ad157, e157, hx157_0⟩ := Kd.at_int HO_6.out x8_1 p157 q157
        cases e157
        replace p157 := eq_true p157
        replace q157 := eq_true q157
        go_wp2
        go_ret
        exact ⟨z_4, z_2⟩
       ·rw [if_neg c10] at H
        have c10b0 : decide ((rd y154 x8_1) < 97) = false := decide_eq_false c10
        clear c10
        by_cases c11 : (rd y154 x8_1) > 122
        ·rw [if_pos c11] at H
         have c11b0 : decide (122 < (rd y154 x8_1)) = true := decide_eq_true c11
         clear c11
         obtain rfl := Option.some.inj H
         have p157 : 0 ≤ (x8_1 : Int) := of_decide_eq_true (z_7)
         have q157 : x8_1 < (y154.length : Int) := of_decide_eq_true (z_7)
         obtain ⟨ad157, e157, hx157_0⟩ := Kd.at_int HO_6.out x8_1 p157 q157
         cases e157
         replace p157 := eq_true p157
         replace q157 := eq_true q157
         go_wp2
         go_ret
         exact ⟨z_4, z_2⟩
        ·rw [if_neg c11] at H
         have c11b0 : decide (122 < (rd y154 x8_1)) = false := decide_eq_false c11
         clear c11
         have H' := Aside0.mk H
         clear H
         have p157 : 0 ≤ (x8_1 : Int) := of_decide_eq_true (z_7)
         have q157 : x8_1 < (y154.length : Int) := of_decide_eq_true (z_7)
         obtain ⟨ad157, e157, hx157_0⟩ := Kd.at_int HO_6.out x8_1 p157 q157
         cases e157
         replace p157 := eq_true p157
         replace q157 := eq_true q157
         go_wp2
         go_roundg k1
         case measure => have := HK1.out; omega
         case rel => exact ⟨(wrap64 (x8_1 + 1)), (z_6), H', ⟨z_9⟩, ⟨by repeat (first | exact HO_6.out | (with_reducible refine Kd.C_alloc ?_ _) | (with_reducible refine Kd.C_drewN ?_ _) | (with_reducible refine Kd.C_drew ?_))⟩, ⟨z_2⟩⟩
      ·rw [if_neg c9] at H
       exact absurd H (z_10)
     ·rw [if_neg c8] at H
      exact absurd H (z_10)
    ·rw [if_neg c7] at H
     have c7b0 : decide (x8_1 < (y154.length : Int)) = false := decide_eq_false c7
     clear c7
     replace H := Option.bind_eq_some_iff.mp H
     obtain ⟨t158, A120, H⟩ := H
     have A12 := Aside0.mk A120
     clear A120
     obtain rfl := Option.some.inj H
     go_wp2_with (first | ((with_reducible refine gate_callee (f := 57) rfl ?_); refine goesL_ (some 21) rfl rfl Try.func57 (z_0) rfl #[.int .i64 (a0.size : Int), .int .i64 1, .int .i64 12] rfl (z_8) ?_; (with_reducible refine (impl_in.calls (a0.size : Int) 1 12 t158 _ A12.out).mono ?_); rintro e w' ⟨rfl, ⟨nd, rfl⟩⟩; refine ⟨_, rfl, ?_⟩))
     go_ret
     exact ⟨z_4, z_2⟩
 ·rw [if_neg c2] at H
  exact absurd H (z_10)

/-! ### impl_word: function 58 -/
def impl_word.f (a0 : Int) : Option (Bool) := (impl_in.f a0 0 65535).bind fun t159 => (some t159)
set_option maxHeartbeats 8000000 in
set_option maxRecDepth 100000 in
theorem impl_word.calls (a0 : Int) (r : Bool) (w : World) (h : impl_word.f a0 = some r) :
  Calls Try.prog 58 #[.int .i64 a0] w fun e w' => e = .returned (.bool r) ∧ Drawn0 w w' := by
 have H : ((impl_in.f a0 0 65535).bind fun t159 => (some t159)) = some r := h
 clear h
 replace H := Option.bind_eq_some_iff.mp H
 obtain ⟨t159, A20, H⟩ := H
 have A2 := Aside0.mk A20
 clear A20
 obtain rfl := Option.some.inj H
 go_enter Try.func58, Try.ntmps58
 go_wp2_with (first | ((with_reducible refine gate_callee (f := 57) rfl ?_); refine goesL_ (some 4) rfl rfl Try.func57 (z_0) rfl #[.int .i64 a0, .int .i64 0, .int .i64 65535] rfl (z_8) ?_; (with_reducible refine (impl_in.calls a0 0 65535 t159 _ A2.out).mono ?_); rintro e w' ⟨rfl, ⟨nd, rfl⟩⟩; refine ⟨_, rfl, ?_⟩))
 go_ret
 exact ⟨z_6, z_49⟩

/-! ### impl_NameOk: function 21 -/
def impl_NameOk.j0 : Nat → Bool → ByteArray → Int → Int → ByteArray → Int → Option (Bool)
 | 0, _, _, _, _, _, _ => none
 | k + 1, x12, x161000, x161001, x161002, x161003, x161004 => if x12 = true then (some false) else (if x161001 = 0 then (if x161002 = 0 then (some (x161003.toList == ([] : List UInt8))) else (some false)) else (if x161001 = 1 then ((impl_word.f x161002).bind fun t163 => (if t163 = true then (some (x161003.toList == ([] : List UInt8))) else (some false))) else (if x161001 = 2 then (if x161002 = 0 then ((impl_textOk.f k x161003).bind fun t164 => (some t164)) else (some false)) else (some false))))
def impl_NameOk.f (k : Nat) (a0_0 : ByteArray) (a0_1 : Int) (a0_2 : Int) (a0_3 : ByteArray) (a0_4 : Int) : Option (Bool) := (impl_textOk.f k a0_0).bind fun t161 => (if t161 = true then ((impl_in.f a0_4 1 50).bind fun t162 => (impl_NameOk.j0 k (!t162) a0_0 a0_1 a0_2 a0_3 a0_4)) else (impl_NameOk.j0 k true a0_0 a0_1 a0_2 a0_3 a0_4))
theorem impl_NameOk.mono_l : ∀ k, (∀ y0 y1 y2 y3 y4 y5, LeO (impl_NameOk.j0 k y0 y1 y2 y3 y4 y5) (impl_NameOk.j0 (k + 1) y0 y1 y2 y3 y4 y5))
 | 0 => fun _ _ _ _ _ _ r h => by simp [impl_NameOk.j0] at h
 | k + 1 => by
  have ih0 := impl_NameOk.mono_l k
  ·intro y0 y1 y2 y3 y4 y5
   unfold impl_NameOk.j0
   repeat' first
   | (with_reducible exact ih0 _ _ _ _ _ _)
   | (with_reducible exact impl_textOk.mono _ _)
   | (with_reducible exact LeO.refl _)
   | (with_reducible exact LeO.none _)
   | (with_reducible refine LeO.ite ?_ ?_)
   | (with_reducible refine LeO.bind ?_ (fun _ => ?_))
   | exact ih0 _ _ _ _ _ _
   | exact impl_textOk.mono _ _
   | exact LeO.none _
   | refine LeO.ite ?_ ?_
   | refine LeO.bind ?_ (fun _ => ?_)
theorem impl_NameOk.mono : ∀ a0 a1 a2 a3 a4 k, LeO (impl_NameOk.f k a0 a1 a2 a3 a4) (impl_NameOk.f (k + 1) a0 a1 a2 a3 a4) := by
 intro a0 a1 a2 a3 a4 k
 have ih0 := impl_NameOk.mono_l k
 unfold impl_NameOk.f
 repeat' first
   | (with_reducible exact ih0 _ _ _ _ _ _)
   | (with_reducible exact impl_textOk.mono _ _)
   | (with_reducible exact LeO.refl _)
   | (with_reducible exact LeO.none _)
   | (with_reducible refine LeO.ite ?_ ?_)
   | (with_reducible refine LeO.bind ?_ (fun _ => ?_))
   | exact ih0 _ _ _ _ _ _
   | exact impl_textOk.mono _ _
   | exact LeO.none _
   | refine LeO.ite ?_ ?_
   | refine LeO.bind ?_ (fun _ => ?_)
set_option maxHeartbeats 8000000 in
set_option maxRecDepth 100000 in
theorem impl_NameOk.calls (k : Nat) (a0_0 : ByteArray) (a0_1 : Int) (a0_2 : Int) (a0_3 : ByteArray) (a0_4 : Int) (r : Bool) (w : World) (h : impl_NameOk.f k a0_0 a0_1 a0_2 a0_3 a0_4 = some r) :
  Calls Try.prog 21 #[.agg #[.string a0_0, .int .i64 a0_1, .int .i64 a0_2, .string a0_3, .int .i64 a0_4]] w fun e w' => e = .returned (.bool r) ∧ Below w.heap.size w w' := by
 have hu26 := Try.underlying26
 have HB := Aside0.mk (Below.refl w.heap.size w)
 have H : ((impl_textOk.f k a0_0).bind fun t161 => (if t161 = true then ((impl_in.f a0_4 1 50).bind fun t162 => (impl_NameOk.j0 k (!t162) a0_0 a0_1 a0_2 a0_3 a0_4)) else (impl_NameOk.j0 k true a0_0 a0_1 a0_2 a0_3 a0_4))) = some r := h
 clear h
 have HC2 := Aside0.mk H
 clear H
 go_enter Try.func21, Try.ntmps21
 go_upto_region 1 with (first | ((with_reducible refine gate_dst (N := 1) rfl ?_); refine box_event ?hg (N := 1) ?hd (cs := #[.string a0_0, .int .i64 a0_1, .int .i64 a0_2, .string a0_3, .int .i64 a0_4]) (t := 26) ?hr ?_; (case hd => rfl); (case hg => rfl); (case hr => exact z_1); intro gb160 hg w3 hbox hb; have n0_ := Aside0.mk (below_step (z_2) hb); have n1_ := Aside0.mk (hbox); have n2_ := Aside0.mk ((z_3 : w.heap.size ≤ gb160)); have n3_ := Aside0.mk ((z_3 : w.heap.size ≤ gb160)); clear HB; have HB := n0_; have BK160 := n1_; have GW160 := n2_; have GE160 := n3_; clear n0_ n1_ n2_ n3_; clear hb hbox hg))
 (try simp only [Act.put, List.setIfInBounds_toArray, List.set_cons_zero, List.set_cons_succ])
 go_cut [12] (fun v12 wc => ∃ (kq : Nat) (x12_1 : Bool), v12 = .bool x12_1 ∧ Aside0 (impl_NameOk.j0 kq x12_1 a0_0 a0_1 a0_2 a0_3 a0_4 = some r) ∧ Aside0 (kq ≤ k) ∧ Aside0 (wc.heap[gb160]? = some (.cells #[.string a0_0, .int .i64 a0_1, .int .i64 a0_2, .string a0_3, .int .i64 a0_4] 26 (0, 0))) ∧ Aside0 (Below w.heap.size w wc))
 case first =>
  have H := HC2.out
  clear HC2
  replace H := Option.bind_eq_some_iff.mp H
  obtain ⟨t161, A40, H⟩ := H
  have A4 := Aside0.mk A40
  clear A40
  by_cases c5 : t161 = true
  ·subst c5
   rw [if_pos rfl] at H
   replace H := Option.bind_eq_some_iff.mp H
   obtain ⟨t162, A60, H⟩ := H
   have A6 := Aside0.mk A60
   clear A60
   have H' := Aside0.mk H
   clear H
   have hcz7_0 : w3.cell? ⟨gb160, 0, none⟩ = some (.string a0_0) := (blk_cell BK160.out 0).trans rfl
   have hcz7_1 : w3.cell? ⟨gb160, 1, none⟩ = some (.int .i64 a0_1) := (blk_cell BK160.out 1).trans rfl
   have hcz7_2 : w3.cell? ⟨gb160, 2, none⟩ = some (.int .i64 a0_2) := (blk_cell BK160.out 2).trans rfl
   have hcz7_3 : w3.cell? ⟨gb160, 3, none⟩ = some (.string a0_3) := (blk_cell BK160.out 3).trans rfl
   have hcz7_4 : w3.cell? ⟨gb160, 4, none⟩ = some (.int .i64 a0_4) := (blk_cell BK160.out 4).trans rfl
   have hfz7_0 := blk_frozen BK160.out 0
   have hfz7_1 := blk_frozen BK160.out 1
   have hfz7_2 := blk_frozen BK160.out 2
   have hfz7_3 := blk_frozen BK160.out 3
   have hfz7_4 := blk_frozen BK160.out 4
   go_wp2_with (first | ((with_reducible refine gate_callee (f := 56) rfl ?_); refine goesL_ (some 5) rfl rfl Try.func56 (z_0) rfl #[.string a0_0] rfl (z_8) ?_; (with_reducible refine (impl_textOk.calls k a0_0 true _ A4.out).mono ?_); rintro e w8 ⟨rfl, hb⟩; refine ⟨_, rfl, ?_⟩; have n0_ := Aside0.mk (blk_below (g := gb160) (o := .cells #[.string a0_0, .int .i64 a0_1, .int .i64 a0_2, .string a0_3, .int .i64 a0_4] 26 (0, 0)) (z_50) hb); have n1_ := Aside0.mk (below_step (z_51) hb); clear BK160; clear HB; have BK160 := n0_; have HB := n1_; clear n0_ n1_; (try clear hb); (try clear hb2); (try clear hk); (try clear hi); have hcz9_0 : w8.cell? ⟨gb160, 0, none⟩ = some (.string a0_0) := (blk_cell BK160.out 0).trans rfl; have hcz9_1 : w8.cell? ⟨gb160, 1, none⟩ = some (.int .i64 a0_1) := (blk_cell BK160.out 1).trans rfl; have hcz9_2 : w8.cell? ⟨gb160, 2, none⟩ = some (.int .i64 a0_2) := (blk_cell BK160.out 2).trans rfl; have hcz9_3 : w8.cell? ⟨gb160, 3, none⟩ = some (.string a0_3) := (blk_cell BK160.out 3).trans rfl; have hcz9_4 : w8.cell? ⟨gb160, 4, none⟩ = some (.int .i64 a0_4) := (blk_cell BK160.out 4).trans rfl; have hfz9_0 := blk_frozen BK160.out 0; have hfz9_1 := blk_frozen BK160.out 1; have hfz9_2 := blk_frozen BK160.out 2; have hfz9_3 := blk_frozen BK160.out 3; have hfz9_4 := blk_frozen BK160.out 4) | (go_at_call 57; (with_reducible refine (impl_in.calls a0_4 1 50 t162 _ A6.out).mono ?_); rintro e w' ⟨rfl, ⟨nd, rfl⟩⟩))
   go_meet
   case rel => exact ⟨_, (!t162), (z_6), H', ⟨z_52⟩, ⟨z_50⟩, ⟨z_51⟩⟩
  ·replace c5 := Bool.eq_false_iff.mpr c5
   subst c5
   rw [if_neg (show ¬ (false = true) by decide)] at H
   have H' := Aside0.mk H
   clear H
   have hcz10_0 : w3.cell? ⟨gb160, 0, none⟩ = some (.string a0_0) := (blk_cell BK160.out 0).trans rfl
   have hcz10_1 : w3.cell? ⟨gb160, 1, none⟩ = some (.int .i64 a0_1) := (blk_cell BK160.out 1).trans rfl
   have hcz10_2 : w3.cell? ⟨gb160, 2, none⟩ = some (.int .i64 a0_2) := (blk_cell BK160.out 2).trans rfl
   have hcz10_3 : w3.cell? ⟨gb160, 3, none⟩ = some (.string a0_3) := (blk_cell BK160.out 3).trans rfl
   have hcz10_4 : w3.cell? ⟨gb160, 4, none⟩ = some (.int .i64 a0_4) := (blk_cell BK160.out 4).trans rfl
   have hfz10_0 := blk_frozen BK160.out 0
   have hfz10_1 := blk_frozen BK160.out 1
   have hfz10_2 := blk_frozen BK160.out 2
   have hfz10_3 := blk_frozen BK160.out 3
   have hfz10_4 := blk_frozen BK160.out 4
   go_wp2_with (first | ((with_reducible refine gate_callee (f := 56) rfl ?_); refine goesL_ (some 5) rfl rfl Try.func56 (z_0) rfl #[.string a0_0] rfl (z_8) ?_; (with_reducible refine (impl_textOk.calls k a0_0 false _ A4.out).mono ?_); rintro e w11 ⟨rfl, hb⟩; refine ⟨_, rfl, ?_⟩; have n0_ := Aside0.mk (blk_below (g := gb160) (o := .cells #[.string a0_0, .int .i64 a0_1, .int .i64 a0_2, .string a0_3, .int .i64 a0_4] 26 (0, 0)) (z_50) hb); have n1_ := Aside0.mk (below_step (z_51) hb); clear BK160; clear HB; have BK160 := n0_; have HB := n1_; clear n0_ n1_; (try clear hb); (try clear hb2); (try clear hk); (try clear hi)))
   go_meet
   case rel => exact ⟨_, (true), (z_6), H', ⟨z_52⟩, ⟨z_50⟩, ⟨z_51⟩⟩
 case rest =>
  clear HC2
  try clear c2
  try clear p2
  try clear c5
  try clear hcz10_0
  try clear hcz10_1
  try clear hcz10_2
  try clear hcz10_3
  try clear hcz10_4
  try clear hcz7_0
  try clear hcz7_1
  try clear hcz7_2
  try clear hcz7_3
  try clear hcz7_4
  try clear hcz9_0
  try clear hcz9_1
  try clear hcz9_2
  try clear hcz9_3
  try clear hcz9_4
  try clear hfz10_0
  try clear hfz10_1
  try clear hfz10_2
  try clear hfz10_3
  try clear hfz10_4
  try clear hfz7_0
  try clear hfz7_1
  try clear hfz7_2
  try clear hfz7_3
  try clear hfz7_4
  try clear hfz9_0
  try clear hfz9_1
  try clear hfz9_2
  try clear hfz9_3
  try clear hfz9_4
  obtain ⟨kq, x12_1, rfl, HA, HJ1, BK160, HB⟩ := hcut
  cases kq with
  | zero => exact absurd HA.out (by simp [impl_NameOk.j0])
  | succ kj1 =>
   have H := HA.out
   clear HA
   simp only [impl_NameOk.j0] at H
   by_cases c12 : x12_1 = true
   ·subst c12
    rw [if_pos rfl] at H
    obtain rfl := Option.some.inj H
    go_wp2
    go_ret
    exact ⟨z_4, z_51⟩
   ·replace c12 := Bool.eq_false_iff.mpr c12
    subst c12
    rw [if_neg (show ¬ (false = true) by decide)] at H
    by_cases c13 : a0_1 = 0
    ·rw [if_pos c13] at H
     have c13b0 : (a0_1 == 0) = true := beq_iff_eq.mpr c13
     have c13b1 : (a0_1 != 0) = false := bne_eq_false_iff_eq.mpr c13
     clear c13
     by_cases c14 : a0_2 = 0
     ·rw [if_pos c14] at H
      have c14b0 : (a0_2 == 0) = true := beq_iff_eq.mpr c14
      have c14b1 : (a0_2 != 0) = false := bne_eq_false_iff_eq.mpr c14
      clear c14
      obtain rfl := Option.some.inj H
      have hcz15_0 : wc.cell? ⟨gb160, 0, none⟩ = some (.string a0_0) := (blk_cell BK160.out 0).trans rfl
      have hcz15_1 : wc.cell? ⟨gb160, 1, none⟩ = some (.int .i64 a0_1) := (blk_cell BK160.out 1).trans rfl
      have hcz15_2 : wc.cell? ⟨gb160, 2, none⟩ = some (.int .i64 a0_2) := (blk_cell BK160.out 2).trans rfl
      have hcz15_3 : wc.cell? ⟨gb160, 3, none⟩ = some (.string a0_3) := (blk_cell BK160.out 3).trans rfl
      have hcz15_4 : wc.cell? ⟨gb160, 4, none⟩ = some (.int .i64 a0_4) := (blk_cell BK160.out 4).trans rfl
      have hfz15_0 := blk_frozen BK160.out 0
      have hfz15_1 := blk_frozen BK160.out 1
      have hfz15_2 := blk_frozen BK160.out 2
      have hfz15_3 := blk_frozen BK160.out 3
      have hfz15_4 := blk_frozen BK160.out 4
      go_wp2
      go_ret
      exact ⟨z_4, z_51⟩
     ·rw [if_neg c14] at H
      have c14b0 : (a0_2 == 0) = false := beq_eq_false_iff_ne.mpr c14
      have c14b1 : (a0_2 != 0) = true := bne_iff_ne.mpr c14
      obtain rfl := Option.some.inj H
      have hcz16_0 : wc.cell? ⟨gb160, 0, none⟩ = some (.string a0_0) := (blk_cell BK160.out 0).trans rfl
      have hcz16_1 : wc.cell? ⟨gb160, 1, none⟩ = some (.int .i64 a0_1) := (blk_cell BK160.out 1).trans rfl
      have hcz16_2 : wc.cell? ⟨gb160, 2, none⟩ = some (.int .i64 a0_2) := (blk_cell BK160.out 2).trans rfl
      have hcz16_3 : wc.cell? ⟨gb160, 3, none⟩ = some (.string a0_3) := (blk_cell BK160.out 3).trans rfl
      have hcz16_4 : wc.cell? ⟨gb160, 4, none⟩ = some (.int .i64 a0_4) := (blk_cell BK160.out 4).trans rfl
      have hfz16_0 := blk_frozen BK160.out 0
      have hfz16_1 := blk_frozen BK160.out 1
      have hfz16_2 := blk_frozen BK160.out 2
      have hfz16_3 := blk_frozen BK160.out 3
      have hfz16_4 := blk_frozen BK160.out 4
      go_wp2
      go_ret
      exact ⟨z_4, z_51⟩
    ·rw [if_neg c13] at H
     have c13b0 : (a0_1 == 0) = false := beq_eq_false_iff_ne.mpr c13
     have c13b1 : (a0_1 != 0) = true := bne_iff_ne.mpr c13
     by_cases c17 : a0_1 = 1
     ·rw [if_pos c17] at H
      have c17b0 : (a0_1 == 1) = true := beq_iff_eq.mpr c17
      have c17b1 : (a0_1 != 1) = false := bne_eq_false_iff_eq.mpr c17
      clear c17
      replace H := Option.bind_eq_some_iff.mp H
      obtain ⟨t163, A180, H⟩ := H
      have A18 := Aside0.mk A180
      clear A180
      by_cases c19 : t163 = true
      ·subst c19
       rw [if_pos rfl] at H
       obtain rfl := Option.some.inj H
       have hcz20_0 : wc.cell? ⟨gb160, 0, none⟩ = some (.string a0_0) := (blk_cell BK160.out 0).trans rfl
       have hcz20_1 : wc.cell? ⟨gb160, 1, none⟩ = some (.int .i64 a0_1) := (blk_cell BK160.out 1).trans rfl
       have hcz20_2 : wc.cell? ⟨gb160, 2, none⟩ = some (.int .i64 a0_2) := (blk_cell BK160.out 2).trans rfl
       have hcz20_3 : wc.cell? ⟨gb160, 3, none⟩ = some (.string a0_3) := (blk_cell BK160.out 3).trans rfl
       have hcz20_4 : wc.cell? ⟨gb160, 4, none⟩ = some (.int .i64 a0_4) := (blk_cell BK160.out 4).trans rfl
       have hfz20_0 := blk_frozen BK160.out 0
       have hfz20_1 := blk_frozen BK160.out 1
       have hfz20_2 := blk_frozen BK160.out 2
       have hfz20_3 := blk_frozen BK160.out 3
       have hfz20_4 := blk_frozen BK160.out 4
       go_wp2_with (first | ((with_reducible refine gate_callee (f := 58) rfl ?_); refine goesL_ (some 29) rfl rfl Try.func58 (z_0) rfl #[.int .i64 a0_2] rfl (z_8) ?_; (with_reducible refine (impl_word.calls a0_2 true _ A18.out).mono ?_); rintro e w' ⟨rfl, ⟨nd, rfl⟩⟩; refine ⟨_, rfl, ?_⟩))
       go_ret
       exact ⟨z_4, z_51⟩
      ·replace c19 := Bool.eq_false_iff.mpr c19
       subst c19
       rw [if_neg (show ¬ (false = true) by decide)] at H
       obtain rfl := Option.some.inj H
       have hcz21_0 : wc.cell? ⟨gb160, 0, none⟩ = some (.string a0_0) := (blk_cell BK160.out 0).trans rfl
       have hcz21_1 : wc.cell? ⟨gb160, 1, none⟩ = some (.int .i64 a0_1) := (blk_cell BK160.out 1).trans rfl
       have hcz21_2 : wc.cell? ⟨gb160, 2, none⟩ = some (.int .i64 a0_2) := (blk_cell BK160.out 2).trans rfl
       have hcz21_3 : wc.cell? ⟨gb160, 3, none⟩ = some (.string a0_3) := (blk_cell BK160.out 3).trans rfl
       have hcz21_4 : wc.cell? ⟨gb160, 4, none⟩ = some (.int .i64 a0_4) := (blk_cell BK160.out 4).trans rfl
       have hfz21_0 := blk_frozen BK160.out 0
       have hfz21_1 := blk_frozen BK160.out 1
       have hfz21_2 := blk_frozen BK160.out 2
       have hfz21_3 := blk_frozen BK160.out 3
       have hfz21_4 := blk_frozen BK160.out 4
       go_wp2_with (first | ((with_reducible refine gate_callee (f := 58) rfl ?_); refine goesL_ (some 29) rfl rfl Try.func58 (z_0) rfl #[.int .i64 a0_2] rfl (z_8) ?_; (with_reducible refine (impl_word.calls a0_2 false _ A18.out).mono ?_); rintro e w' ⟨rfl, ⟨nd, rfl⟩⟩; refine ⟨_, rfl, ?_⟩))
       go_ret
       exact ⟨z_4, z_51⟩
     ·rw [if_neg c17] at H
      have c17b0 : (a0_1 == 1) = false := beq_eq_false_iff_ne.mpr c17
      have c17b1 : (a0_1 != 1) = true := bne_iff_ne.mpr c17
      by_cases c22 : a0_1 = 2
      ·rw [if_pos c22] at H
       have c22b0 : (a0_1 == 2) = true := beq_iff_eq.mpr c22
       have c22b1 : (a0_1 != 2) = false := bne_eq_false_iff_eq.mpr c22
       clear c22
       by_cases c23 : a0_2 = 0
       ·rw [if_pos c23] at H
        have c23b0 : (a0_2 == 0) = true := beq_iff_eq.mpr c23
        have c23b1 : (a0_2 != 0) = false := bne_eq_false_iff_eq.mpr c23
        clear c23
        replace H := Option.bind_eq_some_iff.mp H
        obtain ⟨t164, A240, H⟩ := H
        have A24 := Aside0.mk A240
        clear A240
        obtain rfl := Option.some.inj H
        have hcz25_0 : wc.cell? ⟨gb160, 0, none⟩ = some (.string a0_0) := (blk_cell BK160.out 0).trans rfl
        have hcz25_1 : wc.cell? ⟨gb160, 1, none⟩ = some (.int .i64 a0_1) := (blk_cell BK160.out 1).trans rfl
        have hcz25_2 : wc.cell? ⟨gb160, 2, none⟩ = some (.int .i64 a0_2) := (blk_cell BK160.out 2).trans rfl
        have hcz25_3 : wc.cell? ⟨gb160, 3, none⟩ = some (.string a0_3) := (blk_cell BK160.out 3).trans rfl
        have hcz25_4 : wc.cell? ⟨gb160, 4, none⟩ = some (.int .i64 a0_4) := (blk_cell BK160.out 4).trans rfl
        have hfz25_0 := blk_frozen BK160.out 0
        have hfz25_1 := blk_frozen BK160.out 1
        have hfz25_2 := blk_frozen BK160.out 2
        have hfz25_3 := blk_frozen BK160.out 3
        have hfz25_4 := blk_frozen BK160.out 4
        go_wp2_with (first | (go_at_call 56; (with_reducible refine (impl_textOk.calls kj1 a0_3 t164 _ A24.out).mono ?_); rintro e w26 ⟨rfl, hb⟩; have n0_ := Aside0.mk (blk_below (g := gb160) (o := .cells #[.string a0_0, .int .i64 a0_1, .int .i64 a0_2, .string a0_3, .int .i64 a0_4] 26 (0, 0)) (z_50) hb); have n1_ := Aside0.mk (below_step (z_51) hb); clear BK160; clear HB; have BK160 := n0_; have HB := n1_; clear n0_ n1_; (try clear hb); (try clear hb2); (try clear hk); (try clear hi)))
        go_ret
        exact ⟨z_4, z_51⟩
       ·rw [if_neg c23] at H
        have c23b0 : (a0_2 == 0) = false := beq_eq_false_iff_ne.mpr c23
        have c23b1 : (a0_2 != 0) = true := bne_iff_ne.mpr c23
        obtain rfl := Option.some.inj H
        have hcz27_0 : wc.cell? ⟨gb160, 0, none⟩ = some (.string a0_0) := (blk_cell BK160.out 0).trans rfl
        have hcz27_1 : wc.cell? ⟨gb160, 1, none⟩ = some (.int .i64 a0_1) := (blk_cell BK160.out 1).trans rfl
        have hcz27_2 : wc.cell? ⟨gb160, 2, none⟩ = some (.int .i64 a0_2) := (blk_cell BK160.out 2).trans rfl
        have hcz27_3 : wc.cell? ⟨gb160, 3, none⟩ = some (.string a0_3) := (blk_cell BK160.out 3).trans rfl
        have hcz27_4 : wc.cell? ⟨gb160, 4, none⟩ = some (.int .i64 a0_4) := (blk_cell BK160.out 4).trans rfl
        have hfz27_0 := blk_frozen BK160.out 0
        have hfz27_1 := blk_frozen BK160.out 1
        have hfz27_2 := blk_frozen BK160.out 2
        have hfz27_3 := blk_frozen BK160.out 3
        have hfz27_4 := blk_frozen BK160.out 4
        go_wp2
        go_ret
        exact ⟨z_4, z_51⟩
      ·rw [if_neg c22] at H
       have c22b0 : (a0_1 == 2) = false := beq_eq_false_iff_ne.mpr c22
       have c22b1 : (a0_1 != 2) = true := bne_iff_ne.mpr c22
       obtain rfl := Option.some.inj H
       have hcz28_0 : wc.cell? ⟨gb160, 0, none⟩ = some (.string a0_0) := (blk_cell BK160.out 0).trans rfl
       have hcz28_1 : wc.cell? ⟨gb160, 1, none⟩ = some (.int .i64 a0_1) := (blk_cell BK160.out 1).trans rfl
       have hcz28_2 : wc.cell? ⟨gb160, 2, none⟩ = some (.int .i64 a0_2) := (blk_cell BK160.out 2).trans rfl
       have hcz28_3 : wc.cell? ⟨gb160, 3, none⟩ = some (.string a0_3) := (blk_cell BK160.out 3).trans rfl
       have hcz28_4 : wc.cell? ⟨gb160, 4, none⟩ = some (.int .i64 a0_4) := (blk_cell BK160.out 4).trans rfl
       have hfz28_0 := blk_frozen BK160.out 0
       have hfz28_1 := blk_frozen BK160.out 1
       have hfz28_2 := blk_frozen BK160.out 2
       have hfz28_3 := blk_frozen BK160.out 3
       have hfz28_4 := blk_frozen BK160.out 4
       go_wp2
       go_ret
       exact ⟨z_4, z_51⟩

end Go.Proofs.Ytmgnmgobibpjjaa.GFnExactKeptFind
