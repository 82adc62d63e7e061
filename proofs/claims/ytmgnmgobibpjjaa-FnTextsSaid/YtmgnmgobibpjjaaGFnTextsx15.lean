/- What the Go functions that FnTexts reaches come to, walked step by step; there is no condition beyond those each statement names. -/
import Derived.Test.YtmgnmgobibpjjaaGFnTextsx0
import Derived.Test.YtmgnmgobibpjjaaGFnTextsx1
import Derived.Test.YtmgnmgobibpjjaaGFnTextsx3
import Derived.Test.YtmgnmgobibpjjaaGFnTextsx5
import Derived.Test.YtmgnmgobibpjjaaGFnTextsx6
import Derived.Test.YtmgnmgobibpjjaaGFnTextsx8
import Derived.Test.YtmgnmgobibpjjaaGFnTextsx9
import Derived.Test.YtmgnmgobibpjjaaGFnTextsx13
import Derived.Test.YtmgnmgobibpjjaaGFnTextsx14
namespace Go.Proofs.Ytmgnmgobibpjjaa.GFnTexts
open Go.RowKit Go.Proofs.YtmgnmgobibpjjaaVTexts.PrintWords Go.Proofs.YtmgnmgobibpjjaaVTexts.PrintLast Go.Proofs.YtmgnmgobibpjjaaVTexts.PrintMore
open Bool renaming true → T, false → F
attribute [local go_sem] max2_int min2_int max_two min_two max_three min_three max_four min_four   -- for this text's walks alone
set_option linter.unusedVariables false
set_option linter.unusedSimpArgs false

attribute [local go_sem high] eqA26
/-! ### laws_FnTexts: function 13 -/
mutual
def laws_FnTexts.l0 : Nat → List (S26) → List ByteArray → List Int → List (S83) → List (S83) → Int → Option (Bool)
  | 0, _, _, _, _, _, _ => none
  | k + 1, x3, x4, x5, x6, x7, x8 => if x8 < (x4.length : Int) then (if 0 ≤ x8 then (if x8 < (x5.length : Int) then ((impl_KeptAsk.f k x6 x3 (rdOf ByteArray.empty x4 x8) (rd x5 x8)).bind fun bt405 => ((spec_KeptAsk.f k x7 x3 (rdOf ByteArray.empty x4 x8) (rd x5 x8)).bind fun bt417 => (if (!(bt405.2.1.toList == bt417.2.1.toList) || (!(bt405.2.2.1 == bt417.2.2.1) || (!(bt405.2.2.2.1 == bt417.2.2.2.1) || (!(bt405.2.2.2.2.1.toList == bt417.2.2.2.2.1.toList) || (!(bt405.2.2.2.2.2.1 == bt417.2.2.2.2.2.1)))))) = true then (laws_FnTexts.j1 k x3 x4 x5 x8 bt405.1 bt417.1 true bt405.2.1 bt405.2.2.1 bt405.2.2.2.1 bt405.2.2.2.2.1 bt405.2.2.2.2.2.1) else (if (bt405.2.2.2.2.2.2 != bt417.2.2.2.2.2.2) = true then (laws_FnTexts.j1 k x3 x4 x5 x8 bt405.1 bt417.1 true bt405.2.1 bt405.2.2.1 bt405.2.2.2.1 bt405.2.2.2.2.1 bt405.2.2.2.2.2.1) else ((laws_sameKept.f k bt405.1 bt417.1).bind fun t427 => (laws_FnTexts.j1 k x3 x4 x5 x8 bt405.1 bt417.1 (!t427) bt405.2.1 bt405.2.2.1 bt405.2.2.2.1 bt405.2.2.2.2.1 bt405.2.2.2.2.2.1)))))) else (none)) else (none)) else ((laws_alive.f k).bind fun t402 => (some t402))
def laws_FnTexts.j1 : Nat → List (S26) → List ByteArray → List Int → Int → List (S83) → List (S83) → Bool → ByteArray → Int → Int → ByteArray → Int → Option (Bool)
  | 0, _, _, _, _, _, _, _, _, _, _, _, _ => none
  | k + 1, x3, x4, x5, x8, x9, x12, x77, x415000, x415001, x415002, x415003, x415004 => if x77 = true then (some false) else (if 0 ≤ x8 then (if x8 < (x4.length : Int) then ((impl_NameAsk.f k x3 (rdOf ByteArray.empty x4 x8)).bind fun bt429 => (if bt429.2.2.2.2.2 = true then (if (!(x415000.toList == bt429.1.toList) || (!(x415001 == bt429.2.1) || (!(x415002 == bt429.2.2.1) || (!(x415003.toList == bt429.2.2.2.1.toList) || (!(x415004 == bt429.2.2.2.2.1)))))) = true then (some false) else ((impl_KeptOk.f k x9).bind fun t436 => (if t436 = true then (if (x9.length : Int) > 5 then (some false) else (laws_FnTexts.l0 k x3 x4 x5 x9 x12 (wrap64 (x8 + 1)))) else (some false)))) else (some false))) else (none)) else (none))
end
def laws_FnTexts.f (k : Nat) (l0 : List Int) : Option (Bool) := if (l0.length : Int) > 1048576 then (some true) else ((spec_DrawTexts.f k l0).bind fun bt387 => (laws_FnTexts.l0 k bt387.1 bt387.2.1 bt387.2.2 (([] : List (S83))) (([] : List (S83))) 0))
theorem laws_FnTexts.mono_l : ∀ k, (∀ y0 y1 y2 y3 y4 y5, LeO (laws_FnTexts.l0 k y0 y1 y2 y3 y4 y5) (laws_FnTexts.l0 (k + 1) y0 y1 y2 y3 y4 y5)) ∧ (∀ y0 y1 y2 y3 y4 y5 y6 y7 y8 y9 y10 y11, LeO (laws_FnTexts.j1 k y0 y1 y2 y3 y4 y5 y6 y7 y8 y9 y10 y11) (laws_FnTexts.j1 (k + 1) y0 y1 y2 y3 y4 y5 y6 y7 y8 y9 y10 y11))
  | 0 => ⟨fun _ _ _ _ _ _ r h => by simp [laws_FnTexts.l0] at h, fun _ _ _ _ _ _ _ _ _ _ _ _ r h => by simp [laws_FnTexts.j1] at h⟩
  | k + 1 => by
    obtain ⟨ih0, ih1⟩ := laws_FnTexts.mono_l k
    refine ⟨?_, ?_⟩
    · intro y0 y1 y2 y3 y4 y5
      unfold laws_FnTexts.l0
      repeat' first
      | (with_reducible exact ih0 _ _ _ _ _ _)
      | (with_reducible exact ih1 _ _ _ _ _ _ _ _ _ _ _ _)
      | (with_reducible exact impl_KeptAsk.mono _ _ _ _ _)
      | (with_reducible exact impl_KeptOk.mono _ _)
      | (with_reducible exact impl_NameAsk.mono _ _ _)
      | (with_reducible exact laws_alive.mono _)
      | (with_reducible exact laws_sameKept.mono _ _ _)
      | (with_reducible exact spec_DrawTexts.mono _ _)
      | (with_reducible exact spec_KeptAsk.mono _ _ _ _ _)
      | (with_reducible exact LeO.refl _)
      | (with_reducible exact LeO.none _)
      | (with_reducible refine LeO.ite ?_ ?_)
      | (with_reducible refine LeO.bind ?_ (fun _ => ?_))
      | exact ih0 _ _ _ _ _ _
      | exact ih1 _ _ _ _ _ _ _ _ _ _ _ _
      | exact impl_KeptAsk.mono _ _ _ _ _
      | exact impl_KeptOk.mono _ _
      | exact impl_NameAsk.mono _ _ _
      | exact laws_alive.mono _
      | exact laws_sameKept.mono _ _ _
      | exact spec_DrawTexts.mono _ _
      | exact spec_KeptAsk.mono _ _ _ _ _
      | exact LeO.none _
      | refine LeO.ite ?_ ?_
      | refine LeO.bind ?_ (fun _ => ?_)
    · intro y0 y1 y2 y3 y4 y5 y6 y7 y8 y9 y10 y11
      unfold laws_FnTexts.j1
      repeat' first
      | (with_reducible exact ih0 _ _ _ _ _ _)
      | (with_reducible exact ih1 _ _ _ _ _ _ _ _ _ _ _ _)
      | (with_reducible exact impl_KeptAsk.mono _ _ _ _ _)
      | (with_reducible exact impl_KeptOk.mono _ _)
      | (with_reducible exact impl_NameAsk.mono _ _ _)
      | (with_reducible exact laws_alive.mono _)
      | (with_reducible exact laws_sameKept.mono _ _ _)
      | (with_reducible exact spec_DrawTexts.mono _ _)
      | (with_reducible exact spec_KeptAsk.mono _ _ _ _ _)
      | (with_reducible exact LeO.refl _)
      | (with_reducible exact LeO.none _)
      | (with_reducible refine LeO.ite ?_ ?_)
      | (with_reducible refine LeO.bind ?_ (fun _ => ?_))
      | exact ih0 _ _ _ _ _ _
      | exact ih1 _ _ _ _ _ _ _ _ _ _ _ _
      | exact impl_KeptAsk.mono _ _ _ _ _
      | exact impl_KeptOk.mono _ _
      | exact impl_NameAsk.mono _ _ _
      | exact laws_alive.mono _
      | exact laws_sameKept.mono _ _ _
      | exact spec_DrawTexts.mono _ _
      | exact spec_KeptAsk.mono _ _ _ _ _
      | exact LeO.none _
      | refine LeO.ite ?_ ?_
      | refine LeO.bind ?_ (fun _ => ?_)
theorem laws_FnTexts.mono : ∀ a0 k, LeO (laws_FnTexts.f k a0) (laws_FnTexts.f (k + 1) a0) := by
  intro a0 k
  obtain ⟨ih0, ih1⟩ := laws_FnTexts.mono_l k
  unfold laws_FnTexts.f
  repeat' first
      | (with_reducible exact ih0 _ _ _ _ _ _)
      | (with_reducible exact ih1 _ _ _ _ _ _ _ _ _ _ _ _)
      | (with_reducible exact impl_KeptAsk.mono _ _ _ _ _)
      | (with_reducible exact impl_KeptOk.mono _ _)
      | (with_reducible exact impl_NameAsk.mono _ _ _)
      | (with_reducible exact laws_alive.mono _)
      | (with_reducible exact laws_sameKept.mono _ _ _)
      | (with_reducible exact spec_DrawTexts.mono _ _)
      | (with_reducible exact spec_KeptAsk.mono _ _ _ _ _)
      | (with_reducible exact LeO.refl _)
      | (with_reducible exact LeO.none _)
      | (with_reducible refine LeO.ite ?_ ?_)
      | (with_reducible refine LeO.bind ?_ (fun _ => ?_))
      | exact ih0 _ _ _ _ _ _
      | exact ih1 _ _ _ _ _ _ _ _ _ _ _ _
      | exact impl_KeptAsk.mono _ _ _ _ _
      | exact impl_KeptOk.mono _ _
      | exact impl_NameAsk.mono _ _ _
      | exact laws_alive.mono _
      | exact laws_sameKept.mono _ _ _
      | exact spec_DrawTexts.mono _ _
      | exact spec_KeptAsk.mono _ _ _ _ _
      | exact LeO.none _
      | refine LeO.ite ?_ ?_
      | refine LeO.bind ?_ (fun _ => ?_)
def laws_FnTexts.T9 : Bool × List (List Nat × List Nat) := (true, [([], []), ([], []), ([], []), ([], []), ([2, 3], [2, 3]), ([4], [4]), ([], []), ([], []), ([6, 7], [6, 7]), ([8], [8]), ([0, 1, 5, 9], [0, 1, 5, 9]), ([10], [10]), ([11], [11]), ([11], [11]), ([11], [11]), ([], []), ([12, 10, 0, 1, 2, 3, 4, 5, 6, 7, 8, 9, 10, 11, 12, 15], [12]), ([15, 13, 16, 0, 1, 2, 3, 4, 5, 6, 7, 8, 9, 10, 11, 12, 13, 15, 16], [13, 15]), ([14, 17, 0, 1, 2, 3, 4, 5, 6, 7, 8, 9, 10, 11, 12, 13, 14, 15, 16, 17], [14])])
def laws_FnTexts.B9 : List Nat := [0, 0, 0, 0, 12, 28, 0, 0, 192, 448, 1023, 2047, 4095, 4095, 4095, 0, 40959, 114687, 262143]
theorem laws_FnTexts.tab9 : rtab .any (opsOf Try.f13 9) = laws_FnTexts.T9 := z_0
theorem laws_FnTexts.bits9 : waitsOk laws_FnTexts.T9.2 laws_FnTexts.B9 = true := z_0
def laws_FnTexts.T10 : Bool × List (List Nat × List Nat) := (true, [([], []), ([], []), ([], []), ([], []), ([2, 3], [2, 3]), ([4], [4]), ([], []), ([], []), ([6, 7], [6, 7]), ([8], [8]), ([0, 1, 5, 9], [0, 1, 5, 9]), ([10], [10]), ([11], [11]), ([11], [11]), ([11], [11]), ([], []), ([12, 10, 0, 1, 2, 3, 4, 5, 6, 7, 8, 9, 10, 11, 12, 15], [12]), ([15, 13, 16, 0, 1, 2, 3, 4, 5, 6, 7, 8, 9, 10, 11, 12, 13, 15, 16], [13, 15]), ([14, 17, 0, 1, 2, 3, 4, 5, 6, 7, 8, 9, 10, 11, 12, 13, 14, 15, 16, 17], [14])])
def laws_FnTexts.B10 : List Nat := [0, 0, 0, 0, 12, 28, 0, 0, 192, 448, 1023, 2047, 4095, 4095, 4095, 0, 40959, 114687, 262143]
theorem laws_FnTexts.tab10 : rtab .any (opsOf Try.f13 10) = laws_FnTexts.T10 := z_0
theorem laws_FnTexts.bits10 : waitsOk laws_FnTexts.T10.2 laws_FnTexts.B10 = true := z_0
set_option maxHeartbeats 8000000 in
set_option maxRecDepth 100000 in
theorem laws_FnTexts.calls (k : Nat) (A0 : Option Addr) (c0 : Nat) (l0 : List Int) (r : Bool) (w : World) (hr0 : Kd.C (Kd.int .u8) w A0 l0.length l0) (hc0 : l0.length ≤ c0) (h : laws_FnTexts.f k l0 = some r) :
    Calls Try.prog 13 #[.slice A0 l0.length c0] w fun e w' => e = .returned (.bool r) ∧ Below w.heap.size w w' := by
  have hu26 := Try.underlying26
  have HR0 := Aside0.mk hr0
  have HC0 := Aside0.mk hc0
  clear hr0 hc0
  have HB := Aside0.mk (Below.refl w.heap.size w)
  have H : (if (l0.length : Int) > 1048576 then (some true) else ((spec_DrawTexts.f k l0).bind fun bt387 => (laws_FnTexts.l0 k bt387.1 bt387.2.1 bt387.2.2 (([] : List (S83))) (([] : List (S83))) 0))) = some r := h
  clear h
  by_cases c2 : (l0.length : Int) > 1048576
  · rw [if_pos c2] at H
    have c2b0 : decide (1048576 < (l0.length : Int)) = true := decide_eq_true c2
    have c2b1 : decide (1048576 < l0.length) = true := decide_eq_true (z_6)
    clear c2
    obtain rfl := Option.some.inj H
    go_enter Try.func13, Try.ntmps13
    go_wp2
    go_ret
    exact ⟨z_13, z_8⟩
  · rw [if_neg c2] at H
    have c2b0 : decide (1048576 < (l0.length : Int)) = false := decide_eq_false c2
    have c2b1 : decide (1048576 < l0.length) = false := decide_eq_false (z_6)
    clear c2
    replace H := Option.bind_eq_some_iff.mp H
    obtain ⟨⟨t387, t388, t389⟩, A30, H⟩ := H
    replace H : (laws_FnTexts.l0 k t387 t388 t389 (([] : List (S83))) (([] : List (S83))) 0) = some r := H
    have A3 := Aside0.mk A30
    clear A30
    obtain ⟨y396, hy396⟩ : ∃ y_ : List (S83), y_ = (([] : List (S83))) := ⟨_, rfl⟩
    replace H : (laws_FnTexts.l0 k t387 t388 t389 y396 (([] : List (S83))) 0) = some r := by first | (rw [hy396]; with_reducible exact H) | (have H2_ := (Option.bind_some _ _).symm.trans H; rw [hy396]; with_reducible exact H2_) | (have H2_ := (Option.bind_some _ _).symm.trans H; with_reducible exact H2_) | with_reducible exact H | (rw [hy396]; exact H) | exact H
    have Ny396 := Aside0.mk hy396
    clear hy396
    obtain ⟨y399, hy399⟩ : ∃ y_ : List (S83), y_ = (([] : List (S83))) := ⟨_, rfl⟩
    replace H : (laws_FnTexts.l0 k t387 t388 t389 y396 y399 0) = some r := by first | (rw [hy399]; with_reducible exact H) | (have H2_ := (Option.bind_some _ _).symm.trans H; rw [hy399]; with_reducible exact H2_) | (have H2_ := (Option.bind_some _ _).symm.trans H; with_reducible exact H2_) | with_reducible exact H | (rw [hy399]; exact H) | exact H
    have Ny399 := Aside0.mk hy399
    clear hy399
    have H' := Aside0.mk H
    clear H
    go_enter Try.func13, Try.ntmps13
    go_wp2_with (first | ((with_reducible refine gate_callee (f := 43) rfl ?_); refine goesL_ (some 22) rfl rfl Try.func43 (z_0) rfl #[.slice A0 l0.length c0] rfl (z_14) ?_; (with_reducible refine (spec_DrawTexts.calls k _ _ l0 t387 t388 t389 _ ?side1 ?side2 A3.out).mono ?_); (case side1 => exact z_65); (case side2 => exact HC0.out); rintro e w4 ⟨v390, v392, v394, rfl, ho0, ho1, ho2, hb⟩; refine ⟨_, rfl, ?_⟩; have n0_ := Aside0.mk (Kd.R_lower ho0 (below_size (z_8))); have n1_ := Aside0.mk (Kd.R_lower ho1 (below_size (z_8))); have n2_ := Aside0.mk (Kd.R_lower ho2 (below_size (z_8))); have n3_ := Aside0.mk (below_step (z_8) hb); clear HB; have HO391 := n0_; have HO393 := n1_; have HO395 := n2_; have HB := n3_; clear n0_ n1_ n2_ n3_; (try clear hb); (try clear hb2); (try clear hk); (try clear hi); (try clear ho0); (try clear ho1); (try clear ho2)) | ((with_reducible refine gate_dst (N := 26) rfl ?_); refine Kd.R_lit k83 _ 83 ?hg (N := 26) ?hd (xs := ([] : List (S83))) (inner := []) (ok := fun _ => True) (okp := fun _ => True) ?hr ?hp (fun _ hk => hk) trivial (Below.refl _ _) (Nat.le_refl _) (z_12) ?_; (case hd => rfl); (case hg => rfl); (case hr => exact z_9); (case hp => exact z_45); intro v397 w5 ho6 hb hg_ hnew_; clear hg_ hnew_; (first | rw [← Ny396.out] at ho6 | (simp only [Int.reduceToNat] at ho6; rw [← Ny396.out] at ho6)); have n0_ := Aside0.mk (Kd.R_below (z_129) hb); have n1_ := Aside0.mk (Kd.R_below (z_130) hb); have n2_ := Aside0.mk (Kd.R_below (z_131) hb); have n3_ := Aside0.mk (Kd.R_lower ho6 (below_size (z_8))); have n4_ := Aside0.mk (below_step (z_8) hb); clear HO391; clear HO393; clear HO395; clear HB; have HO391 := n0_; have HO393 := n1_; have HO395 := n2_; have HO398 := n3_; have HB := n4_; clear n0_ n1_ n2_ n3_ n4_; clear hb ho6) | ((with_reducible refine gate_dst (N := 27) rfl ?_); refine Kd.R_lit k83 _ 83 ?hg (N := 27) ?hd (xs := ([] : List (S83))) (inner := []) (ok := fun _ => True) (okp := fun _ => True) ?hr ?hp (fun _ hk => hk) trivial (Below.refl _ _) (Nat.le_refl _) (z_12) ?_; (case hd => rfl); (case hg => rfl); (case hr => exact z_9); (case hp => exact z_45); intro v400 w7 ho8 hb hg_ hnew_; clear hg_ hnew_; (first | rw [← Ny399.out] at ho8 | (simp only [Int.reduceToNat] at ho8; rw [← Ny399.out] at ho8)); have n0_ := Aside0.mk (Kd.R_below (z_129) hb); have n1_ := Aside0.mk (Kd.R_below (z_130) hb); have n2_ := Aside0.mk (Kd.R_below (z_131) hb); have n3_ := Aside0.mk (Kd.R_elder' (z_132) (Kd.R_base ho8) hb); have n4_ := Aside0.mk (Kd.R_lower (Kd.R_new' ho8 (Kd.R_lt (z_132))) (below_size (z_8))); have n5_ := Aside0.mk (below_step (z_8) hb); clear HO391; clear HO393; clear HO395; clear HO398; clear HB; have HO391 := n0_; have HO393 := n1_; have HO395 := n2_; have HO398 := n3_; have HO401 := n4_; have HB := n5_; clear n0_ n1_ n2_ n3_ n4_ n5_; clear hb ho8))
    go_loopg [6, 7, 8] k (fun kq v6 v7 v8 w' => ∃ (x6_1 : List (S83)) (x7_1 : List (S83)) (x8_1 : Int), v8 = .int .i64 x8_1 ∧ Aside0 (laws_FnTexts.l0 kq t387 t388 t389 x6_1 x7_1 x8_1 = some r) ∧ Aside0 (kq ≤ k) ∧ Aside0 (Kd.R k26 26 w' w.heap.size (fun _ => True) v390 t387) ∧ Aside0 (Kd.R Kd.string 9 w' w.heap.size (fun _ => True) v392 t388) ∧ Aside0 (Kd.R (Kd.int .i64) 3 w' w.heap.size (fun _ => True) v394 t389) ∧ Aside0 (Kd.R k83 83 w' w.heap.size (fun k_ => some k_ ≠ (v7 : Value).ownBlock) v6 x6_1) ∧ Aside0 (Kd.Q k83 83 w' w.heap.size (fun k_ => some k_ ≠ (v6 : Value).ownBlock) v7 x7_1) ∧ Aside0 (Below w.heap.size w w'))
    case atStart => exact ⟨(y396), (y399), (0), (z_3), H', ⟨Nat.le_refl _⟩, ⟨z_129⟩, ⟨z_130⟩, ⟨z_131⟩, ⟨by (with_reducible repeat (first | apply Kd.R_alloc | apply Kd.R_drewN | apply Kd.R_drew)); exact Kd.R_mono HO398.out (fun _ hk => hk.2)⟩, ⟨Kd.Q_of_R (by (with_reducible repeat (first | apply Kd.R_alloc | apply Kd.R_drewN | apply Kd.R_drew)); exact Kd.R_mono HO401.out (fun _ hk => hk.2))⟩, ⟨z_8⟩⟩
    case round =>
      clear H'
      try clear c1
      try clear c2
      try clear c2b0
      try clear c2b1
      try clear p2
      try clear c4
      obtain ⟨x6_1, x7_1, x8_1, rfl, HA, HK1, HO_3, HO_4, HO_5, HO_6, HO_7, HB⟩ := hrel
      cases gk with
      | zero => exact absurd HA.out (by simp [laws_FnTexts.l0])
      | succ k1 =>
        have H := HA.out
        clear HA
        simp only [laws_FnTexts.l0] at H
        by_cases c9 : x8_1 < (t388.length : Int)
        · rw [if_pos c9] at H
          have c9b0 : decide (x8_1 < (t388.length : Int)) = true := decide_eq_true c9
          clear c9
          by_cases c10 : 0 ≤ x8_1
          · rw [if_pos c10] at H
            have c10b0 : decide (0 ≤ x8_1) = true := decide_eq_true c10
            clear c10
            by_cases c11 : x8_1 < (t389.length : Int)
            · rw [if_pos c11] at H
              have c11b0 : decide (x8_1 < (t389.length : Int)) = true := decide_eq_true c11
              clear c11
              replace H := Option.bind_eq_some_iff.mp H
              obtain ⟨⟨t405, t408, t409, t410, t411, t412, t413⟩, A120, H⟩ := H
              replace H : ((spec_KeptAsk.f k1 x7_1 t387 (rdOf ByteArray.empty t388 x8_1) (rd t389 x8_1)).bind fun bt417 => (if (!(t408.toList == bt417.2.1.toList) || (!(t409 == bt417.2.2.1) || (!(t410 == bt417.2.2.2.1) || (!(t411.toList == bt417.2.2.2.2.1.toList) || (!(t412 == bt417.2.2.2.2.2.1)))))) = true then (laws_FnTexts.j1 k1 t387 t388 t389 x8_1 t405 bt417.1 true t408 t409 t410 t411 t412) else (if (t413 != bt417.2.2.2.2.2.2) = true then (laws_FnTexts.j1 k1 t387 t388 t389 x8_1 t405 bt417.1 true t408 t409 t410 t411 t412) else ((laws_sameKept.f k1 t405 bt417.1).bind fun t427 => (laws_FnTexts.j1 k1 t387 t388 t389 x8_1 t405 bt417.1 (!t427) t408 t409 t410 t411 t412))))) = some r := H
              have A12 := Aside0.mk A120
              clear A120
              replace H := Option.bind_eq_some_iff.mp H
              obtain ⟨⟨t417, t420, t421, t422, t423, t424, t425⟩, A130, H⟩ := H
              replace H : (if (!(t408.toList == t420.toList) || (!(t409 == t421) || (!(t410 == t422) || (!(t411.toList == t423.toList) || (!(t412 == t424)))))) = true then (laws_FnTexts.j1 k1 t387 t388 t389 x8_1 t405 t417 true t408 t409 t410 t411 t412) else (if (t413 != t425) = true then (laws_FnTexts.j1 k1 t387 t388 t389 x8_1 t405 t417 true t408 t409 t410 t411 t412) else ((laws_sameKept.f k1 t405 t417).bind fun t427 => (laws_FnTexts.j1 k1 t387 t388 t389 x8_1 t405 t417 (!t427) t408 t409 t410 t411 t412)))) = some r := H
              have A13 := Aside0.mk A130
              clear A130
              have HC14 := Aside0.mk H
              clear H
              obtain ⟨Ao15, co15, eo15⟩ := Kd.R_slice HO_4.out
              subst eo15
              obtain ⟨Ao16, co16, eo16⟩ := Kd.R_slice HO_6.out
              subst eo16
              obtain ⟨Ao17, co17, eo17⟩ := Kd.R_slice HO_3.out
              subst eo17
              try go_wp2
              have n0_ := Aside0.mk (Kd.R_drew HO_3.out)
              have n1_ := Aside0.mk (Kd.R_drew HO_4.out)
              have n2_ := Aside0.mk (Kd.R_drew HO_5.out)
              have n3_ := Aside0.mk (Kd.R_drew HO_6.out)
              have n4_ := Aside0.mk (Kd.Q_drew HO_7.out)
              have n5_ := Aside0.mk (below_drew1 HB.out)
              clear HO_3
              clear HO_4
              clear HO_5
              clear HO_6
              clear HO_7
              clear HB
              have HO_3 := n0_
              have HO_4 := n1_
              have HO_5 := n2_
              have HO_6 := n3_
              have HO_7 := n4_
              have HB := n5_
              clear n0_ n1_ n2_ n3_ n4_ n5_
              have p403 : 0 ≤ (x8_1 : Int) := of_decide_eq_true (z_7)
              have q403 : x8_1 < (t388.length : Int) := of_decide_eq_true (z_7)
              obtain ⟨ad403, e403, hx403_0⟩ := Kd.at_string (Kd.R_reads' HO_4.out).2.2 x8_1 p403 q403
              cases e403
              replace p403 := eq_true p403
              replace q403 := eq_true q403
              obtain ⟨Ao19, co19, eo19⟩ := Kd.R_slice HO_5.out
              (first | subst eo19 | (injection eo19 with f1_ f2_ f3_; have f4_ := f1_.symm; have f5_ := f3_.symm; clear f1_ f2_ f3_; subst f4_; subst f5_))
              have p404 : 0 ≤ (x8_1 : Int) := of_decide_eq_true (z_7)
              have q404 : x8_1 < (t389.length : Int) := of_decide_eq_true (z_7)
              obtain ⟨ad404, e404, hx404_0⟩ := Kd.at_int (Kd.R_reads' HO_5.out).2.2 x8_1 p404 q404
              cases e404
              replace p404 := eq_true p404
              replace q404 := eq_true q404
              refine start_ (n := 19) (S := fun w' => w'.cell? (ad403.add (x8_1).toNat) = some (.string (rdOf ByteArray.empty t388 x8_1)) ∧ w'.cell? (ad404.add (x8_1).toNat) = some (.int .i64 (rd t389 x8_1))) (ds := []) #[F,F,F,F,F,F,F,F,F,F,F,F,F,F,F,F,F,F,F] (z_0) rfl rfl ⟨hx403_0, hx404_0⟩ (fun hHeld => ?_); refine with_tabW laws_FnTexts.tab9 laws_FnTexts.bits9 (fun HT_ HW_ => ?_)
              generalize wr.drew = w18 at HO_3 HO_4 HO_5 HO_6 HO_7 HB hx403_0 hx404_0 hHeld ⊢
              refine pure_ (i := 0) (N := some 35) (v := ?_) (a' := ?_) #[T,F,F,F,F,F,F,F,F,F,F,F,F,F,F,F,F,F,F] rfl rfl (any_of HT_.out (z_0)) (fun _ _ _ h => h) (Or.inl ⟨z_1, ?_⟩) ?_ ?_
              rotate_left
              · intro w'
                go_simp
                with_reducible rfl
              rotate_left
              · simp only [Act.put, List.setIfInBounds_toArray, List.set_cons_zero, List.set_cons_succ, i64_w, i32_w]
                rfl
              refine pure_ (i := 1) (N := some 36) (v := ?_) (a' := ?_) #[T,T,F,F,F,F,F,F,F,F,F,F,F,F,F,F,F,F,F] rfl rfl (any_of HT_.out (z_0)) (fun _ _ _ h => h) (Or.inl ⟨z_1, ?_⟩) ?_ ?_
              rotate_left
              · intro w'
                go_simp
                with_reducible rfl
              rotate_left
              · simp only [Act.put, List.setIfInBounds_toArray, List.set_cons_zero, List.set_cons_succ, i64_w, i32_w]
                rfl
              refine pure_ (i := 2) (N := some 37) (v := ?_) (a' := ?_) #[T,T,T,F,F,F,F,F,F,F,F,F,F,F,F,F,F,F,F] rfl rfl (any_of HT_.out (z_0)) (fun _ _ _ h => h) (Or.inl ⟨z_1, ?_⟩) ?_ ?_
              rotate_left
              · intro w'
                go_simp
                with_reducible rfl
              rotate_left
              · simp only [Act.put, List.setIfInBounds_toArray, List.set_cons_zero, List.set_cons_succ, i64_w, i32_w]
                rfl
              refine pure_ (i := 3) (N := some 38) (v := ?_) (a' := ?_) #[T,T,T,T,F,F,F,F,F,F,F,F,F,F,F,F,F,F,F] rfl rfl (any_of HT_.out (z_0)) (fun _ _ _ h => h) (Or.inl ⟨z_1, ?_⟩) ?_ ?_
              rotate_left
              · intro w'
                go_simp
                with_reducible rfl
              rotate_left
              · simp only [Act.put, List.setIfInBounds_toArray, List.set_cons_zero, List.set_cons_succ, i64_w, i32_w]
                rfl
              refine pure_ (i := 4) (N := some 39) (v := ?_) (a' := ?_) #[T,T,T,T,T,F,F,F,F,F,F,F,F,F,F,F,F,F,F] rfl rfl (any_of HT_.out (z_0)) (fun _ _ _ h => h) (Or.inl ⟨z_1, ?_⟩) ?_ ?_
              rotate_left
              · intro w'
                go_simp
                with_reducible rfl
              rotate_left
              · simp only [Act.put, List.setIfInBounds_toArray, List.set_cons_zero, List.set_cons_succ, i64_w, i32_w]
                rfl
              refine pure_ (i := 6) (N := some 41) (v := ?_) (a' := ?_) #[T,T,T,T,T,F,T,F,F,F,F,F,F,F,F,F,F,F,F] rfl rfl (any_of HT_.out (z_0)) (fun _ _ _ h => h) (Or.inl ⟨z_1, ?_⟩) ?_ ?_
              rotate_left
              · intro w'
                go_simp
                with_reducible rfl
              rotate_left
              · simp only [Act.put, List.setIfInBounds_toArray, List.set_cons_zero, List.set_cons_succ, i64_w, i32_w]
                rfl
              refine pure_ (i := 7) (N := some 42) (v := ?_) (a' := ?_) #[T,T,T,T,T,F,T,T,F,F,F,F,F,F,F,F,F,F,F] rfl rfl (any_of HT_.out (z_0)) (fun _ _ _ h => h) (Or.inl ⟨z_1, ?_⟩) ?_ ?_
              rotate_left
              · intro w'
                go_simp
                with_reducible rfl
              rotate_left
              · simp only [Act.put, List.setIfInBounds_toArray, List.set_cons_zero, List.set_cons_succ, i64_w, i32_w]
                rfl
              refine pure_ (i := 8) (N := some 43) (v := ?_) (a' := ?_) #[T,T,T,T,T,F,T,T,T,F,F,F,F,F,F,F,F,F,F] rfl rfl (any_of HT_.out (z_0)) (fun _ _ _ h => h) (Or.inl ⟨z_1, ?_⟩) ?_ ?_
              rotate_left
              · intro w'
                go_simp
                with_reducible rfl
              rotate_left
              · simp only [Act.put, List.setIfInBounds_toArray, List.set_cons_zero, List.set_cons_succ, i64_w, i32_w]
                rfl
              refine take_ (i := 5) (N := some 40) (v := ?_) (a' := ?_) #[T,T,T,T,T,T,T,T,T,F,F,F,F,F,F,F,F,F,F] rfl rfl (take_ofW HT_.out HW_.out (z_0)) (fun _ _ _ h => h) (Or.inl ⟨z_1, ?_⟩) hHeld ?_ ?_
              rotate_left
              · rintro w' ⟨s0, s1⟩
                go_simp
                with_reducible rfl
              rotate_left
              · simp only [Act.put, List.setIfInBounds_toArray, List.set_cons_zero, List.set_cons_succ, i64_w, i32_w]
                rfl
              refine take_ (i := 9) (N := some 44) (v := ?_) (a' := ?_) #[T,T,T,T,T,T,T,T,T,T,F,F,F,F,F,F,F,F,F] rfl rfl (take_ofW HT_.out HW_.out (z_0)) (fun _ _ _ h => h) (Or.inl ⟨z_1, ?_⟩) hHeld ?_ ?_
              rotate_left
              · rintro w' ⟨s0, s1⟩
                go_simp
                with_reducible rfl
              rotate_left
              · simp only [Act.put, List.setIfInBounds_toArray, List.set_cons_zero, List.set_cons_succ, i64_w, i32_w]
                rfl
              refine join_ (σ := Value × Nat) 3 #[T,T,T,T,T,T,T,T,T,T,T,T,T,T,T,T,F,F,F] (fun s_ => [(45, .tuple #[s_.1, .agg #[.string t408, .int .i64 t409, .int .i64 t410, .string t411, .int .i64 t412], .bool t413]), (10, .pointer (some ⟨s_.2, 0, none⟩)), (34, .tuple #[s_.1, .agg #[.string t408, .int .i64 t409, .int .i64 t410, .string t411, .int .i64 t412], .bool t413]), (46, s_.1), (47, .agg #[.string t408, .int .i64 t409, .int .i64 t410, .string t411, .int .i64 t412]), (48, .bool t413)]) (fun s_ w' => (w'.cell? (ad403.add (x8_1).toNat) = some (.string (rdOf ByteArray.empty t388 x8_1)) ∧ w'.cell? (ad404.add (x8_1).toNat) = some (.int .i64 (rd t389 x8_1))) ∧ (Kd.R k83 83 w' w.heap.size (fun k_ => some k_ ≠ (.slice Ao16 x6_1.length co16 : Value).ownBlock ∧ some k_ ≠ (u7 : Value).ownBlock) s_.1 t405) ∧ (Kd.R k26 26 w' w.heap.size (fun k_ => k_ ≠ s_.2) (.slice Ao17 t387.length co17) t387) ∧ (Kd.R Kd.string 9 w' w.heap.size (fun _ => True) (.slice (some ad403) t388.length co15) t388) ∧ (Kd.R (Kd.int .i64) 3 w' w.heap.size (fun _ => True) (.slice (some ad404) t389.length co19) t389) ∧ (Kd.R k83 83 w' w.heap.size (fun k_ => some k_ ≠ (s_.1 : Value).ownBlock ∧ some k_ ≠ (u7 : Value).ownBlock) (.slice Ao16 x6_1.length co16) x6_1) ∧ (Kd.Q k83 83 w' w.heap.size (fun k_ => some k_ ≠ (s_.1 : Value).ownBlock ∧ some k_ ≠ (.slice Ao16 x6_1.length co16 : Value).ownBlock) u7 x7_1) ∧ (w'.heap[s_.2]? = some (.cells #[.string (⟨#[]⟩ : ByteArray), .int .i64 0, .int .i64 0, .string (⟨#[]⟩ : ByteArray), .int .i64 0] 26 (0, 0))) ∧ (w.heap.size ≤ s_.2) ∧ (w.heap.size ≤ s_.2) ∧ (Below w.heap.size w w')) ?_ ?_
              rotate_left
              · intro hCont
                refine two_ (i := 10) (j := 15) (Ni := some 45) (Nj := some 10) #[T,T,T,T,T,T,T,T,T,T,T,F,F,F,F,F,F,F,F] #[T,T,T,T,T,T,T,T,T,T,F,F,F,F,F,T,F,F,F] rfl rfl rfl rfl (two_of HT_.out (z_0)) (z_5) (z_5) (fun K hK => ?_) (fun K hK => ?_)
                · skip
                  refine goes_ Try.func44 (z_0) rfl #[.slice Ao16 x6_1.length co16, .slice Ao17 t387.length co17, .string (rdOf ByteArray.empty t388 x8_1), .int .i64 (rd t389 x8_1)] (z_1) rfl rfl (z_14) ?_
                  with_reducible refine (impl_KeptAsk.calls k1 _ _ x6_1 _ _ t387 (rdOf ByteArray.empty t388 x8_1) (rd t389 x8_1) t405 t408 t409 t410 t411 t412 t413 _ ?side1 ?side2 ?side3 ?side4 A12.out).mono ?_
                  (case side1 => exact z_133)
                  (case side2 => exact (Kd.R_reads' HO_6.out).2.1)
                  (case side3 => exact z_134)
                  (case side4 => exact z_135)
                  rintro e w20 ⟨v406, rfl, ho0, hb⟩
                  have HS0_ := (hb.cell (World.block_lt_of_cell? _ _ (hHeld.1))).trans (hHeld.1)
                  have HS1_ := (hb.cell (World.block_lt_of_cell? _ _ (hHeld.2))).trans (hHeld.2)
                  refine ⟨_, rfl, ?_⟩
                  have n0_ := Aside0.mk (Kd.R_below (z_136) hb)
                  have n1_ := Aside0.mk (Kd.R_below (z_137) hb)
                  have n2_ := Aside0.mk (Kd.R_below (z_11) hb)
                  have n3_ := Aside0.mk (Kd.R_elder' (z_59) (Kd.R_base ho0) hb)
                  have n4_ := Aside0.mk (Kd.Q_elder' (z_138) (Kd.R_base ho0) hb)
                  have n5_ := Aside0.mk (Kd.R_lower (Kd.R_new' (Kd.R_new' ho0 (Kd.R_lt (z_59))) (Kd.Q_lt (z_138))) (below_size (z_8)))
                  have n6_ := Aside0.mk (below_step (z_8) hb)
                  clear HO_3
                  clear HO_4
                  clear HO_5
                  clear HO_6
                  clear HO_7
                  clear HB
                  have HO_3 := n0_
                  have HO_4 := n1_
                  have HO_5 := n2_
                  have HO_6 := n3_
                  have HO_7 := n4_
                  have HO407 := n5_
                  have HB := n6_
                  clear n0_ n1_ n2_ n3_ n4_ n5_ n6_
                  (try clear hb)
                  (try clear hb2)
                  (try clear hk)
                  (try clear hi)
                  (try clear ho0)
                  refine hK.out _ _ ⟨HS0_, HS1_⟩ (fun hHeld => ?_)
                  clear hK K
                  refine norm_ (a' := ?_) ?_ ?_
                  rotate_left
                  · show Act.put _ (some 45) _ = _
                    simp only [Act.put, List.setIfInBounds_toArray, List.set_cons_zero, List.set_cons_succ, i64_w, i32_w]
                    rfl
                  refine pure_ (i := 11) (N := some 34) (v := ?_) (a' := ?_) #[T,T,T,T,T,T,T,T,T,T,T,T,F,F,F,F,F,F,F] rfl rfl (any_of HT_.out (z_0)) (fun _ _ _ h => h) (Or.inl ⟨z_1, ?_⟩) ?_ ?_
                  rotate_left
                  · intro w'
                    go_simp
                    with_reducible rfl
                  rotate_left
                  · simp only [Act.put, List.setIfInBounds_toArray, List.set_cons_zero, List.set_cons_succ, i64_w, i32_w]
                    rfl
                  refine pure_ (i := 12) (N := some 46) (v := ?_) (a' := ?_) #[T,T,T,T,T,T,T,T,T,T,T,T,T,F,F,F,F,F,F] rfl rfl (any_of HT_.out (z_0)) (fun _ _ _ h => h) (Or.inl ⟨z_1, ?_⟩) ?_ ?_
                  rotate_left
                  · intro w'
                    go_simp
                    with_reducible rfl
                  rotate_left
                  · simp only [Act.put, List.setIfInBounds_toArray, List.set_cons_zero, List.set_cons_succ, i64_w, i32_w]
                    rfl
                  refine pure_ (i := 13) (N := some 47) (v := ?_) (a' := ?_) #[T,T,T,T,T,T,T,T,T,T,T,T,T,T,F,F,F,F,F] rfl rfl (any_of HT_.out (z_0)) (fun _ _ _ h => h) (Or.inl ⟨z_1, ?_⟩) ?_ ?_
                  rotate_left
                  · intro w'
                    go_simp
                    with_reducible rfl
                  rotate_left
                  · simp only [Act.put, List.setIfInBounds_toArray, List.set_cons_zero, List.set_cons_succ, i64_w, i32_w]
                    rfl
                  refine pure_ (i := 14) (N := some 48) (v := ?_) (a' := ?_) #[T,T,T,T,T,T,T,T,T,T,T,T,T,T,T,F,F,F,F] rfl rfl (any_of HT_.out (z_0)) (fun _ _ _ h => h) (Or.inl ⟨z_1, ?_⟩) ?_ ?_
                  rotate_left
                  · intro w'
                    go_simp
                    with_reducible rfl
                  rotate_left
                  · simp only [Act.put, List.setIfInBounds_toArray, List.set_cons_zero, List.set_cons_succ, i64_w, i32_w]
                    rfl
                  refine one_ (i := 15) (N := some 10) #[T,T,T,T,T,T,T,T,T,T,T,T,T,T,T,T,F,F,F] rfl rfl (one_of HT_.out (z_0)) (z_5) (fun K hK => ?_)
                  refine box_step ?hg (N := 10) ?hd (cs := #[.string (⟨#[]⟩ : ByteArray), .int .i64 0, .int .i64 0, .string (⟨#[]⟩ : ByteArray), .int .i64 0]) (t := 26) ?hr ?_; (case hd => rfl); (case hg => rfl); (case hr => exact z_9)
                  intro gb414 hg w21 hbox hb
                  have HS0_ := (hb.cell (World.block_lt_of_cell? _ _ (hHeld.1))).trans (hHeld.1)
                  have HS1_ := (hb.cell (World.block_lt_of_cell? _ _ (hHeld.2))).trans (hHeld.2)
                  have n0_ := Aside0.mk (Kd.R_below (Kd.R_elderB (z_136) gb414 (Nat.le_of_eq hg.symm)) hb)
                  have n1_ := Aside0.mk (Kd.R_below (z_137) hb)
                  have n2_ := Aside0.mk (Kd.R_below (z_11) hb)
                  have n3_ := Aside0.mk (Kd.R_below (z_59) hb)
                  have n4_ := Aside0.mk (Kd.Q_below (z_138) hb)
                  have n5_ := Aside0.mk (Kd.R_below (z_139) hb)
                  have n6_ := Aside0.mk (below_step (z_8) hb)
                  have n7_ := Aside0.mk (hbox)
                  have n8_ := Aside0.mk ((z_20 : w.heap.size ≤ gb414))
                  have n9_ := Aside0.mk ((z_20 : w.heap.size ≤ gb414))
                  clear HO_3
                  clear HO_4
                  clear HO_5
                  clear HO_6
                  clear HO_7
                  clear HO407
                  clear HB
                  have HO_3 := n0_
                  have HO_4 := n1_
                  have HO_5 := n2_
                  have HO_6 := n3_
                  have HO_7 := n4_
                  have HO407 := n5_
                  have HB := n6_
                  have BK414 := n7_
                  have GW414 := n8_
                  have GE414 := n9_
                  clear n0_ n1_ n2_ n3_ n4_ n5_ n6_ n7_ n8_ n9_
                  clear hb hbox hg
                  refine hK.out _ _ ⟨HS0_, HS1_⟩ (fun hHeld => ?_)
                  clear hK K
                  refine norm_ (a' := ?_) ?_ ?_
                  rotate_left
                  · show Act.put _ (some 10) _ = _
                    simp only [Act.put, List.setIfInBounds_toArray, List.set_cons_zero, List.set_cons_succ, i64_w, i32_w]
                    rfl
                  exact norm_ (z_140) (hCont (v406, gb414) _ ⟨hHeld, (z_141), (z_142), (z_137), (z_11), (z_143), (z_144), (z_145), GW414.out, GE414.out, (z_146)⟩)
                · skip
                  refine box_step ?hg (N := 10) ?hd (cs := #[.string (⟨#[]⟩ : ByteArray), .int .i64 0, .int .i64 0, .string (⟨#[]⟩ : ByteArray), .int .i64 0]) (t := 26) ?hr ?_; (case hd => rfl); (case hg => rfl); (case hr => exact z_9)
                  intro gb414 hg w20 hbox hb
                  have HS0_ := (hb.cell (World.block_lt_of_cell? _ _ (hHeld.1))).trans (hHeld.1)
                  have HS1_ := (hb.cell (World.block_lt_of_cell? _ _ (hHeld.2))).trans (hHeld.2)
                  have n0_ := Aside0.mk (Kd.R_below (Kd.R_elderB (z_136) gb414 (Nat.le_of_eq hg.symm)) hb)
                  have n1_ := Aside0.mk (Kd.R_below (z_137) hb)
                  have n2_ := Aside0.mk (Kd.R_below (z_11) hb)
                  have n3_ := Aside0.mk (Kd.R_below (z_59) hb)
                  have n4_ := Aside0.mk (Kd.Q_below (z_138) hb)
                  have n5_ := Aside0.mk (below_step (z_8) hb)
                  have n6_ := Aside0.mk (hbox)
                  have n7_ := Aside0.mk ((z_20 : w.heap.size ≤ gb414))
                  have n8_ := Aside0.mk ((z_20 : w.heap.size ≤ gb414))
                  clear HO_3
                  clear HO_4
                  clear HO_5
                  clear HO_6
                  clear HO_7
                  clear HB
                  have HO_3 := n0_
                  have HO_4 := n1_
                  have HO_5 := n2_
                  have HO_6 := n3_
                  have HO_7 := n4_
                  have HB := n5_
                  have BK414 := n6_
                  have GW414 := n7_
                  have GE414 := n8_
                  clear n0_ n1_ n2_ n3_ n4_ n5_ n6_ n7_ n8_
                  clear hb hbox hg
                  refine hK.out _ _ ⟨HS0_, HS1_⟩ (fun hHeld => ?_)
                  clear hK K
                  refine norm_ (a' := ?_) ?_ ?_
                  rotate_left
                  · show Act.put _ (some 10) _ = _
                    simp only [Act.put, List.setIfInBounds_toArray, List.set_cons_zero, List.set_cons_succ, i64_w, i32_w]
                    rfl
                  refine one_ (i := 10) (N := some 45) #[T,T,T,T,T,T,T,T,T,T,T,F,F,F,F,T,F,F,F] rfl rfl (one_of HT_.out (z_0)) (z_5) (fun K hK => ?_)
                  refine goes_ Try.func44 (z_0) rfl #[.slice Ao16 x6_1.length co16, .slice Ao17 t387.length co17, .string (rdOf ByteArray.empty t388 x8_1), .int .i64 (rd t389 x8_1)] (z_1) rfl rfl (z_14) ?_
                  with_reducible refine (impl_KeptAsk.calls k1 _ _ x6_1 _ _ t387 (rdOf ByteArray.empty t388 x8_1) (rd t389 x8_1) t405 t408 t409 t410 t411 t412 t413 _ ?side1 ?side2 ?side3 ?side4 A12.out).mono ?_
                  (case side1 => exact z_133)
                  (case side2 => exact (Kd.R_reads' HO_6.out).2.1)
                  (case side3 => exact z_134)
                  (case side4 => exact z_135)
                  rintro e w21 ⟨v406, rfl, ho0, hb⟩
                  have HS0_ := (hb.cell (World.block_lt_of_cell? _ _ (hHeld.1))).trans (hHeld.1)
                  have HS1_ := (hb.cell (World.block_lt_of_cell? _ _ (hHeld.2))).trans (hHeld.2)
                  refine ⟨_, rfl, ?_⟩
                  have n0_ := Aside0.mk (Kd.R_below (z_136) hb)
                  have n1_ := Aside0.mk (Kd.R_below (z_137) hb)
                  have n2_ := Aside0.mk (Kd.R_below (z_11) hb)
                  have n3_ := Aside0.mk (Kd.R_elder' (z_59) (Kd.R_base ho0) hb)
                  have n4_ := Aside0.mk (Kd.Q_elder' (z_138) (Kd.R_base ho0) hb)
                  have n5_ := Aside0.mk (Kd.R_lower (Kd.R_new' (Kd.R_new' ho0 (Kd.R_lt (z_59))) (Kd.Q_lt (z_138))) (below_size (z_146)))
                  have n6_ := Aside0.mk (blk_below (g := gb414) (o := .cells #[.string (⟨#[]⟩ : ByteArray), .int .i64 0, .int .i64 0, .string (⟨#[]⟩ : ByteArray), .int .i64 0] 26 (0, 0)) (z_145) hb)
                  have n7_ := Aside0.mk (below_step (z_146) hb)
                  clear HO_3
                  clear HO_4
                  clear HO_5
                  clear HO_6
                  clear HO_7
                  clear BK414
                  clear HB
                  have HO_3 := n0_
                  have HO_4 := n1_
                  have HO_5 := n2_
                  have HO_6 := n3_
                  have HO_7 := n4_
                  have HO407 := n5_
                  have BK414 := n6_
                  have HB := n7_
                  clear n0_ n1_ n2_ n3_ n4_ n5_ n6_ n7_
                  (try clear hb)
                  (try clear hb2)
                  (try clear hk)
                  (try clear hi)
                  (try clear ho0)
                  refine hK.out _ _ ⟨HS0_, HS1_⟩ (fun hHeld => ?_)
                  clear hK K
                  refine norm_ (a' := ?_) ?_ ?_
                  rotate_left
                  · show Act.put _ (some 45) _ = _
                    simp only [Act.put, List.setIfInBounds_toArray, List.set_cons_zero, List.set_cons_succ, i64_w, i32_w]
                    rfl
                  refine pure_ (i := 11) (N := some 34) (v := ?_) (a' := ?_) #[T,T,T,T,T,T,T,T,T,T,T,T,F,F,F,T,F,F,F] rfl rfl (any_of HT_.out (z_0)) (fun _ _ _ h => h) (Or.inl ⟨z_1, ?_⟩) ?_ ?_
                  rotate_left
                  · intro w'
                    go_simp
                    with_reducible rfl
                  rotate_left
                  · simp only [Act.put, List.setIfInBounds_toArray, List.set_cons_zero, List.set_cons_succ, i64_w, i32_w]
                    rfl
                  refine pure_ (i := 12) (N := some 46) (v := ?_) (a' := ?_) #[T,T,T,T,T,T,T,T,T,T,T,T,T,F,F,T,F,F,F] rfl rfl (any_of HT_.out (z_0)) (fun _ _ _ h => h) (Or.inl ⟨z_1, ?_⟩) ?_ ?_
                  rotate_left
                  · intro w'
                    go_simp
                    with_reducible rfl
                  rotate_left
                  · simp only [Act.put, List.setIfInBounds_toArray, List.set_cons_zero, List.set_cons_succ, i64_w, i32_w]
                    rfl
                  refine pure_ (i := 13) (N := some 47) (v := ?_) (a' := ?_) #[T,T,T,T,T,T,T,T,T,T,T,T,T,T,F,T,F,F,F] rfl rfl (any_of HT_.out (z_0)) (fun _ _ _ h => h) (Or.inl ⟨z_1, ?_⟩) ?_ ?_
                  rotate_left
                  · intro w'
                    go_simp
                    with_reducible rfl
                  rotate_left
                  · simp only [Act.put, List.setIfInBounds_toArray, List.set_cons_zero, List.set_cons_succ, i64_w, i32_w]
                    rfl
                  refine pure_ (i := 14) (N := some 48) (v := ?_) (a' := ?_) #[T,T,T,T,T,T,T,T,T,T,T,T,T,T,T,T,F,F,F] rfl rfl (any_of HT_.out (z_0)) (fun _ _ _ h => h) (Or.inl ⟨z_1, ?_⟩) ?_ ?_
                  rotate_left
                  · intro w'
                    go_simp
                    with_reducible rfl
                  rotate_left
                  · simp only [Act.put, List.setIfInBounds_toArray, List.set_cons_zero, List.set_cons_succ, i64_w, i32_w]
                    rfl
                  exact norm_ (z_140) (hCont (v406, gb414) _ ⟨hHeld, (z_141), (z_142), (z_137), (z_11), (z_143), (z_144), (z_145), GW414.out, GE414.out, (z_146)⟩)
              rintro ⟨v406, gb414⟩ w22 ⟨hS_, h0_, h1_, h2_, h3_, h4_, h5_, h6_, h7_, h8_, h9_⟩
              have n0_ : Aside0 (Kd.R k83 83 w22 w.heap.size (fun k_ => some k_ ≠ (.slice Ao16 x6_1.length co16 : Value).ownBlock ∧ some k_ ≠ (u7 : Value).ownBlock) v406 t405) := ⟨h0_⟩
              have n1_ : Aside0 (Kd.R k26 26 w22 w.heap.size (fun k_ => k_ ≠ gb414) (.slice Ao17 t387.length co17) t387) := ⟨h1_⟩
              have n2_ : Aside0 (Kd.R Kd.string 9 w22 w.heap.size (fun _ => True) (.slice (some ad403) t388.length co15) t388) := ⟨h2_⟩
              have n3_ : Aside0 (Kd.R (Kd.int .i64) 3 w22 w.heap.size (fun _ => True) (.slice (some ad404) t389.length co19) t389) := ⟨h3_⟩
              have n4_ : Aside0 (Kd.R k83 83 w22 w.heap.size (fun k_ => some k_ ≠ (v406 : Value).ownBlock ∧ some k_ ≠ (u7 : Value).ownBlock) (.slice Ao16 x6_1.length co16) x6_1) := ⟨h4_⟩
              have n5_ : Aside0 (Kd.Q k83 83 w22 w.heap.size (fun k_ => some k_ ≠ (v406 : Value).ownBlock ∧ some k_ ≠ (.slice Ao16 x6_1.length co16 : Value).ownBlock) u7 x7_1) := ⟨h5_⟩
              have n6_ : Aside0 (w22.heap[gb414]? = some (.cells #[.string (⟨#[]⟩ : ByteArray), .int .i64 0, .int .i64 0, .string (⟨#[]⟩ : ByteArray), .int .i64 0] 26 (0, 0))) := ⟨h6_⟩
              have n7_ : Aside0 (w.heap.size ≤ gb414) := ⟨h7_⟩
              have n8_ : Aside0 (w.heap.size ≤ gb414) := ⟨h8_⟩
              have n9_ : Aside0 (Below w.heap.size w w22) := ⟨h9_⟩
              clear HO_3
              clear HO_4
              clear HO_5
              clear HO_6
              clear HO_7
              clear HB
              clear h0_ h1_ h2_ h3_ h4_ h5_ h6_ h7_ h8_ h9_
              have HO407 := n0_
              have HO_3 := n1_
              have HO_4 := n2_
              have HO_5 := n3_
              have HO_6 := n4_
              have HO_7 := n5_
              have BK414 := n6_
              have GW414 := n7_
              have GE414 := n8_
              have HB := n9_
              clear n0_ n1_ n2_ n3_ n4_ n5_ n6_ n7_ n8_ n9_
              have hHeld : w22.cell? (ad403.add (x8_1).toNat) = some (.string (rdOf ByteArray.empty t388 x8_1)) ∧ w22.cell? (ad404.add (x8_1).toNat) = some (.int .i64 (rd t389 x8_1)) := hS_
              refine norm_ (a' := ?_) ?_ ?_
              rotate_left
              · simp only [putAll, Act.put, List.setIfInBounds_toArray, List.set_cons_zero, List.set_cons_succ]
                rfl
              refine pure_ (i := 16) (N := some 9) (v := ?_) (a' := ?_) #[T,T,T,T,T,T,T,T,T,T,T,T,T,T,T,T,T,F,F] rfl rfl (any_of HT_.out (z_0)) (fun _ _ _ h => h) (Or.inl ⟨z_1, ?_⟩) ?_ ?_
              rotate_left
              · intro w'
                go_simp
                with_reducible rfl
              rotate_left
              · simp only [Act.put, List.setIfInBounds_toArray, List.set_cons_zero, List.set_cons_succ, i64_w, i32_w]
                rfl
              refine one_ (i := 17) (N := none) #[T,T,T,T,T,T,T,T,T,T,T,T,T,T,T,T,T,T,F] rfl rfl (one_of HT_.out (z_0)) (z_5) (fun K hK => ?_)
              have hs23 : w22.cell? ⟨gb414, 0, none⟩ = some (.string (⟨#[]⟩ : ByteArray)) := (blk_cell BK414.out 0).trans rfl
              have hfs23 := blk_frozen BK414.out 0
              have hs24 : w22.cell? ⟨gb414, 1, none⟩ = some (.int .i64 0) := (blk_cell BK414.out 1).trans rfl
              have hfs24 := blk_frozen BK414.out 1
              have hs25 : w22.cell? ⟨gb414, 2, none⟩ = some (.int .i64 0) := (blk_cell BK414.out 2).trans rfl
              have hfs25 := blk_frozen BK414.out 2
              have hs26 : w22.cell? ⟨gb414, 3, none⟩ = some (.string (⟨#[]⟩ : ByteArray)) := (blk_cell BK414.out 3).trans rfl
              have hfs26 := blk_frozen BK414.out 3
              have hs27 : w22.cell? ⟨gb414, 4, none⟩ = some (.int .i64 0) := (blk_cell BK414.out 4).trans rfl
              have hfs27 := blk_frozen BK414.out 4
              refine skip_ (w1 := ?_) (z_1) rfl ?_ ?_
              rotate_left
              · go_simp
                rfl
              refine hK.out _ _ ⟨((cell_far (p := ⟨gb414, _, none⟩) (z_147) _).trans (((cell_far (p := ⟨gb414, _, none⟩) (z_147) _).trans (((cell_far (p := ⟨gb414, _, none⟩) (z_147) _).trans (((cell_far (p := ⟨gb414, _, none⟩) (z_147) _).trans (((cell_far (p := ⟨gb414, _, none⟩) (z_147) _).trans (hHeld.1)))))))))), ((cell_far (p := ⟨gb414, _, none⟩) (z_148) _).trans (((cell_far (p := ⟨gb414, _, none⟩) (z_148) _).trans (((cell_far (p := ⟨gb414, _, none⟩) (z_148) _).trans (((cell_far (p := ⟨gb414, _, none⟩) (z_148) _).trans (((cell_far (p := ⟨gb414, _, none⟩) (z_148) _).trans (hHeld.2))))))))))⟩ (fun hHeld => ?_)
              clear hK K
              refine pure_ (i := 18) (N := some 11) (v := ?_) (a' := ?_) #[T,T,T,T,T,T,T,T,T,T,T,T,T,T,T,T,T,T,T] rfl rfl (any_of HT_.out (z_0)) (fun _ _ _ h => h) (Or.inl ⟨z_1, ?_⟩) ?_ ?_
              rotate_left
              · intro w'
                go_simp
                with_reducible rfl
              rotate_left
              · simp only [Act.put, List.setIfInBounds_toArray, List.set_cons_zero, List.set_cons_succ, i64_w, i32_w]
                rfl
              refine done_ (done_of HT_.out (z_0)) ?_
              obtain ⟨Ao28, co28, eo28, _⟩ := Kd.Q_slice HO_7.out
              subst eo28
              try go_wp2
              have n0_ : Aside0 (Kd.R k26 26 (((((w22.setCell ⟨gb414, 0, none⟩ (.string t408)).setCell ⟨gb414, 1, none⟩ (.int .i64 t409)).setCell ⟨gb414, 2, none⟩ (.int .i64 t410)).setCell ⟨gb414, 3, none⟩ (.string t411)).setCell ⟨gb414, 4, none⟩ (.int .i64 t412)) w.heap.size (fun k_ => k_ ≠ gb414) (.slice Ao17 t387.length co17) t387) := ⟨by (with_reducible repeat (first | apply Kd.R_alloc | apply Kd.R_drewN | apply Kd.R_drew)); exact Kd.R_mono (Kd.R_far (p := ⟨gb414, 4, none⟩) (Kd.R_far (p := ⟨gb414, 3, none⟩) (Kd.R_far (p := ⟨gb414, 2, none⟩) (Kd.R_far (p := ⟨gb414, 1, none⟩) (Kd.R_far (p := ⟨gb414, 0, none⟩) (Kd.R_mono HO_3.out (fun k_ hk => (⟨hk, hk⟩ : _ ∧ k_ ≠ gb414))) (fun _ hk => hk.2) (.string t408)) (fun _ hk => hk.2) (.int .i64 t409)) (fun _ hk => hk.2) (.int .i64 t410)) (fun _ hk => hk.2) (.string t411)) (fun _ hk => hk.2) (.int .i64 t412)) (fun _ hk => hk.1)⟩
              have n1_ : Aside0 (Kd.R Kd.string 9 (((((w22.setCell ⟨gb414, 0, none⟩ (.string t408)).setCell ⟨gb414, 1, none⟩ (.int .i64 t409)).setCell ⟨gb414, 2, none⟩ (.int .i64 t410)).setCell ⟨gb414, 3, none⟩ (.string t411)).setCell ⟨gb414, 4, none⟩ (.int .i64 t412)) w.heap.size (fun _ => True) (.slice (some ad403) t388.length co15) t388) := ⟨by (with_reducible repeat (first | apply Kd.R_alloc | apply Kd.R_drewN | apply Kd.R_drew)); exact Kd.R_mono (Kd.R_far (p := ⟨gb414, 4, none⟩) (Kd.R_far (p := ⟨gb414, 3, none⟩) (Kd.R_far (p := ⟨gb414, 2, none⟩) (Kd.R_far (p := ⟨gb414, 1, none⟩) (Kd.R_far (p := ⟨gb414, 0, none⟩) (Kd.R_types HO_4.out BK414.out (z_5)) (fun _ hk => hk.2) (.string t408)) (fun _ hk => hk.2) (.int .i64 t409)) (fun _ hk => hk.2) (.int .i64 t410)) (fun _ hk => hk.2) (.string t411)) (fun _ hk => hk.2) (.int .i64 t412)) (fun _ hk => trivial)⟩
              have n2_ : Aside0 (Kd.R (Kd.int .i64) 3 (((((w22.setCell ⟨gb414, 0, none⟩ (.string t408)).setCell ⟨gb414, 1, none⟩ (.int .i64 t409)).setCell ⟨gb414, 2, none⟩ (.int .i64 t410)).setCell ⟨gb414, 3, none⟩ (.string t411)).setCell ⟨gb414, 4, none⟩ (.int .i64 t412)) w.heap.size (fun _ => True) (.slice (some ad404) t389.length co19) t389) := ⟨by (with_reducible repeat (first | apply Kd.R_alloc | apply Kd.R_drewN | apply Kd.R_drew)); exact Kd.R_mono (Kd.R_far (p := ⟨gb414, 4, none⟩) (Kd.R_far (p := ⟨gb414, 3, none⟩) (Kd.R_far (p := ⟨gb414, 2, none⟩) (Kd.R_far (p := ⟨gb414, 1, none⟩) (Kd.R_far (p := ⟨gb414, 0, none⟩) (Kd.R_types HO_5.out BK414.out (z_5)) (fun _ hk => hk.2) (.string t408)) (fun _ hk => hk.2) (.int .i64 t409)) (fun _ hk => hk.2) (.int .i64 t410)) (fun _ hk => hk.2) (.string t411)) (fun _ hk => hk.2) (.int .i64 t412)) (fun _ hk => trivial)⟩
              have n3_ : Aside0 (Kd.R k83 83 (((((w22.setCell ⟨gb414, 0, none⟩ (.string t408)).setCell ⟨gb414, 1, none⟩ (.int .i64 t409)).setCell ⟨gb414, 2, none⟩ (.int .i64 t410)).setCell ⟨gb414, 3, none⟩ (.string t411)).setCell ⟨gb414, 4, none⟩ (.int .i64 t412)) w.heap.size (fun k_ => some k_ ≠ (.slice Ao28 x7_1.length co28 : Value).ownBlock ∧ some k_ ≠ (v406 : Value).ownBlock) (.slice Ao16 x6_1.length co16) x6_1) := ⟨by (with_reducible repeat (first | apply Kd.R_alloc | apply Kd.R_drewN | apply Kd.R_drew)); exact Kd.R_mono (Kd.R_far (p := ⟨gb414, 4, none⟩) (Kd.R_far (p := ⟨gb414, 3, none⟩) (Kd.R_far (p := ⟨gb414, 2, none⟩) (Kd.R_far (p := ⟨gb414, 1, none⟩) (Kd.R_far (p := ⟨gb414, 0, none⟩) (Kd.R_types HO_6.out BK414.out (z_5)) (fun _ hk => hk.2) (.string t408)) (fun _ hk => hk.2) (.int .i64 t409)) (fun _ hk => hk.2) (.int .i64 t410)) (fun _ hk => hk.2) (.string t411)) (fun _ hk => hk.2) (.int .i64 t412)) (fun _ hk => ⟨hk.1.2, hk.1.1⟩)⟩
              have n4_ : Aside0 (Kd.Q k83 83 (((((w22.setCell ⟨gb414, 0, none⟩ (.string t408)).setCell ⟨gb414, 1, none⟩ (.int .i64 t409)).setCell ⟨gb414, 2, none⟩ (.int .i64 t410)).setCell ⟨gb414, 3, none⟩ (.string t411)).setCell ⟨gb414, 4, none⟩ (.int .i64 t412)) w.heap.size (fun k_ => some k_ ≠ (.slice Ao16 x6_1.length co16 : Value).ownBlock ∧ some k_ ≠ (v406 : Value).ownBlock) (.slice Ao28 x7_1.length co28) x7_1) := ⟨by (with_reducible repeat (first | apply Kd.Q_alloc | apply Kd.Q_drewN | apply Kd.Q_drew)); exact Kd.Q_mono (Kd.Q_far (p := ⟨gb414, 4, none⟩) (Kd.Q_far (p := ⟨gb414, 3, none⟩) (Kd.Q_far (p := ⟨gb414, 2, none⟩) (Kd.Q_far (p := ⟨gb414, 1, none⟩) (Kd.Q_far (p := ⟨gb414, 0, none⟩) (Kd.Q_types HO_7.out BK414.out (z_5)) (fun _ hk => hk.2) (.string t408)) (fun _ hk => hk.2) (.int .i64 t409)) (fun _ hk => hk.2) (.int .i64 t410)) (fun _ hk => hk.2) (.string t411)) (fun _ hk => hk.2) (.int .i64 t412)) (fun _ hk => ⟨hk.1.2, hk.1.1⟩)⟩
              have n5_ : Aside0 (Kd.R k83 83 (((((w22.setCell ⟨gb414, 0, none⟩ (.string t408)).setCell ⟨gb414, 1, none⟩ (.int .i64 t409)).setCell ⟨gb414, 2, none⟩ (.int .i64 t410)).setCell ⟨gb414, 3, none⟩ (.string t411)).setCell ⟨gb414, 4, none⟩ (.int .i64 t412)) w.heap.size (fun k_ => some k_ ≠ (.slice Ao16 x6_1.length co16 : Value).ownBlock ∧ some k_ ≠ (.slice Ao28 x7_1.length co28 : Value).ownBlock) v406 t405) := ⟨by (with_reducible repeat (first | apply Kd.R_alloc | apply Kd.R_drewN | apply Kd.R_drew)); exact Kd.R_mono (Kd.R_far (p := ⟨gb414, 4, none⟩) (Kd.R_far (p := ⟨gb414, 3, none⟩) (Kd.R_far (p := ⟨gb414, 2, none⟩) (Kd.R_far (p := ⟨gb414, 1, none⟩) (Kd.R_far (p := ⟨gb414, 0, none⟩) (Kd.R_types HO407.out BK414.out (z_5)) (fun _ hk => hk.2) (.string t408)) (fun _ hk => hk.2) (.int .i64 t409)) (fun _ hk => hk.2) (.int .i64 t410)) (fun _ hk => hk.2) (.string t411)) (fun _ hk => hk.2) (.int .i64 t412)) (fun _ hk => ⟨hk.1.1, hk.1.2⟩)⟩
              have n6_ : Aside0 ((((((w22.setCell ⟨gb414, 0, none⟩ (.string t408)).setCell ⟨gb414, 1, none⟩ (.int .i64 t409)).setCell ⟨gb414, 2, none⟩ (.int .i64 t410)).setCell ⟨gb414, 3, none⟩ (.string t411)).setCell ⟨gb414, 4, none⟩ (.int .i64 t412)).heap[gb414]? = some (.cells #[.string t408, .int .i64 t409, .int .i64 t410, .string t411, .int .i64 t412] 26 (0, 0))) := ⟨by (with_reducible repeat (first | refine blk_drewN ?_ _ | refine blk_drew ?_ | refine blk_alloc ?_ _)); refine blk_put (cs := #[.string t408, .int .i64 t409, .int .i64 t410, .string t411, .int .i64 0]) ?_ 4 _ rfl; (with_reducible repeat (first | refine blk_drewN ?_ _ | refine blk_drew ?_ | refine blk_alloc ?_ _)); refine blk_put (cs := #[.string t408, .int .i64 t409, .int .i64 t410, .string (⟨#[]⟩ : ByteArray), .int .i64 0]) ?_ 3 _ rfl; (with_reducible repeat (first | refine blk_drewN ?_ _ | refine blk_drew ?_ | refine blk_alloc ?_ _)); refine blk_put (cs := #[.string t408, .int .i64 t409, .int .i64 0, .string (⟨#[]⟩ : ByteArray), .int .i64 0]) ?_ 2 _ rfl; (with_reducible repeat (first | refine blk_drewN ?_ _ | refine blk_drew ?_ | refine blk_alloc ?_ _)); refine blk_put (cs := #[.string t408, .int .i64 0, .int .i64 0, .string (⟨#[]⟩ : ByteArray), .int .i64 0]) ?_ 1 _ rfl; (with_reducible repeat (first | refine blk_drewN ?_ _ | refine blk_drew ?_ | refine blk_alloc ?_ _)); refine blk_put (cs := #[.string (⟨#[]⟩ : ByteArray), .int .i64 0, .int .i64 0, .string (⟨#[]⟩ : ByteArray), .int .i64 0]) ?_ 0 _ rfl; (with_reducible repeat (first | refine blk_drewN ?_ _ | refine blk_drew ?_ | refine blk_alloc ?_ _)); exact BK414.out⟩
              have n7_ : Aside0 (Below w.heap.size w (((((w22.setCell ⟨gb414, 0, none⟩ (.string t408)).setCell ⟨gb414, 1, none⟩ (.int .i64 t409)).setCell ⟨gb414, 2, none⟩ (.int .i64 t410)).setCell ⟨gb414, 3, none⟩ (.string t411)).setCell ⟨gb414, 4, none⟩ (.int .i64 t412))) := ⟨z_146⟩
              (try clear HO_3)
              (try clear HO_4)
              (try clear HO_5)
              (try clear HO_6)
              (try clear HO_7)
              (try clear HO407)
              (try clear BK414)
              (try clear HB)
              generalize (((((w22.setCell ⟨gb414, 0, none⟩ (.string t408)).setCell ⟨gb414, 1, none⟩ (.int .i64 t409)).setCell ⟨gb414, 2, none⟩ (.int .i64 t410)).setCell ⟨gb414, 3, none⟩ (.string t411)).setCell ⟨gb414, 4, none⟩ (.int .i64 t412)) = w29 at n0_ n1_ n2_ n3_ n4_ n5_ n6_ n7_ ⊢
              have HO_3 := n0_
              have HO_4 := n1_
              have HO_5 := n2_
              have HO_6 := n3_
              have HO_7 := n4_
              have HO407 := n5_
              have BK414 := n6_
              have HB := n7_
              clear n0_ n1_ n2_ n3_ n4_ n5_ n6_ n7_
              have n0_ := Aside0.mk (Kd.R_drew HO_3.out)
              have n1_ := Aside0.mk (Kd.R_drew HO_4.out)
              have n2_ := Aside0.mk (Kd.R_drew HO_5.out)
              have n3_ := Aside0.mk (Kd.R_drew HO_6.out)
              have n4_ := Aside0.mk (Kd.Q_drew HO_7.out)
              have n5_ := Aside0.mk (Kd.R_drew HO407.out)
              have n6_ := Aside0.mk (blk_drew BK414.out)
              have n7_ := Aside0.mk (below_drew1 HB.out)
              clear HO_3
              clear HO_4
              clear HO_5
              clear HO_6
              clear HO_7
              clear HO407
              clear BK414
              clear HB
              have HO_3 := n0_
              have HO_4 := n1_
              have HO_5 := n2_
              have HO_6 := n3_
              have HO_7 := n4_
              have HO407 := n5_
              have BK414 := n6_
              have HB := n7_
              clear n0_ n1_ n2_ n3_ n4_ n5_ n6_ n7_
              have p415 : 0 ≤ (x8_1 : Int) := of_decide_eq_true (z_7)
              have q415 : x8_1 < (t388.length : Int) := of_decide_eq_true (z_7)
              obtain ⟨ad415, e415, hx415_0⟩ := Kd.at_string (Kd.R_reads' HO_4.out).2.2 x8_1 p415 q415
              obtain rfl : ad403 = ad415 := (by injection e415)
              replace p415 := eq_true p415
              replace q415 := eq_true q415
              have p416 : 0 ≤ (x8_1 : Int) := of_decide_eq_true (z_7)
              have q416 : x8_1 < (t389.length : Int) := of_decide_eq_true (z_7)
              obtain ⟨ad416, e416, hx416_0⟩ := Kd.at_int (Kd.R_reads' HO_5.out).2.2 x8_1 p416 q416
              obtain rfl : ad404 = ad416 := (by injection e416)
              replace p416 := eq_true p416
              replace q416 := eq_true q416
              refine start_ (n := 19) (S := fun w' => w'.cell? (ad403.add (x8_1).toNat) = some (.string (rdOf ByteArray.empty t388 x8_1)) ∧ w'.cell? (ad404.add (x8_1).toNat) = some (.int .i64 (rd t389 x8_1))) (ds := []) #[F,F,F,F,F,F,F,F,F,F,F,F,F,F,F,F,F,F,F] (z_0) rfl rfl ⟨hx415_0, hx416_0⟩ (fun hHeld => ?_); refine with_tabW laws_FnTexts.tab10 laws_FnTexts.bits10 (fun HT_ HW_ => ?_)
              generalize w29.drew = w30 at HO_3 HO_4 HO_5 HO_6 HO_7 HO407 BK414 HB hx415_0 hx416_0 hHeld ⊢
              refine pure_ (i := 0) (N := some 50) (v := ?_) (a' := ?_) #[T,F,F,F,F,F,F,F,F,F,F,F,F,F,F,F,F,F,F] rfl rfl (any_of HT_.out (z_0)) (fun _ _ _ h => h) (Or.inl ⟨z_1, ?_⟩) ?_ ?_
              rotate_left
              · intro w'
                go_simp
                with_reducible rfl
              rotate_left
              · simp only [Act.put, List.setIfInBounds_toArray, List.set_cons_zero, List.set_cons_succ, i64_w, i32_w]
                rfl
              refine pure_ (i := 1) (N := some 51) (v := ?_) (a' := ?_) #[T,T,F,F,F,F,F,F,F,F,F,F,F,F,F,F,F,F,F] rfl rfl (any_of HT_.out (z_0)) (fun _ _ _ h => h) (Or.inl ⟨z_1, ?_⟩) ?_ ?_
              rotate_left
              · intro w'
                go_simp
                with_reducible rfl
              rotate_left
              · simp only [Act.put, List.setIfInBounds_toArray, List.set_cons_zero, List.set_cons_succ, i64_w, i32_w]
                rfl
              refine pure_ (i := 2) (N := some 52) (v := ?_) (a' := ?_) #[T,T,T,F,F,F,F,F,F,F,F,F,F,F,F,F,F,F,F] rfl rfl (any_of HT_.out (z_0)) (fun _ _ _ h => h) (Or.inl ⟨z_1, ?_⟩) ?_ ?_
              rotate_left
              · intro w'
                go_simp
                with_reducible rfl
              rotate_left
              · simp only [Act.put, List.setIfInBounds_toArray, List.set_cons_zero, List.set_cons_succ, i64_w, i32_w]
                rfl
              refine pure_ (i := 3) (N := some 53) (v := ?_) (a' := ?_) #[T,T,T,T,F,F,F,F,F,F,F,F,F,F,F,F,F,F,F] rfl rfl (any_of HT_.out (z_0)) (fun _ _ _ h => h) (Or.inl ⟨z_1, ?_⟩) ?_ ?_
              rotate_left
              · intro w'
                go_simp
                with_reducible rfl
              rotate_left
              · simp only [Act.put, List.setIfInBounds_toArray, List.set_cons_zero, List.set_cons_succ, i64_w, i32_w]
                rfl
              refine pure_ (i := 4) (N := some 54) (v := ?_) (a' := ?_) #[T,T,T,T,T,F,F,F,F,F,F,F,F,F,F,F,F,F,F] rfl rfl (any_of HT_.out (z_0)) (fun _ _ _ h => h) (Or.inl ⟨z_1, ?_⟩) ?_ ?_
              rotate_left
              · intro w'
                go_simp
                with_reducible rfl
              rotate_left
              · simp only [Act.put, List.setIfInBounds_toArray, List.set_cons_zero, List.set_cons_succ, i64_w, i32_w]
                rfl
              refine pure_ (i := 6) (N := some 56) (v := ?_) (a' := ?_) #[T,T,T,T,T,F,T,F,F,F,F,F,F,F,F,F,F,F,F] rfl rfl (any_of HT_.out (z_0)) (fun _ _ _ h => h) (Or.inl ⟨z_1, ?_⟩) ?_ ?_
              rotate_left
              · intro w'
                go_simp
                with_reducible rfl
              rotate_left
              · simp only [Act.put, List.setIfInBounds_toArray, List.set_cons_zero, List.set_cons_succ, i64_w, i32_w]
                rfl
              refine pure_ (i := 7) (N := some 57) (v := ?_) (a' := ?_) #[T,T,T,T,T,F,T,T,F,F,F,F,F,F,F,F,F,F,F] rfl rfl (any_of HT_.out (z_0)) (fun _ _ _ h => h) (Or.inl ⟨z_1, ?_⟩) ?_ ?_
              rotate_left
              · intro w'
                go_simp
                with_reducible rfl
              rotate_left
              · simp only [Act.put, List.setIfInBounds_toArray, List.set_cons_zero, List.set_cons_succ, i64_w, i32_w]
                rfl
              refine pure_ (i := 8) (N := some 58) (v := ?_) (a' := ?_) #[T,T,T,T,T,F,T,T,T,F,F,F,F,F,F,F,F,F,F] rfl rfl (any_of HT_.out (z_0)) (fun _ _ _ h => h) (Or.inl ⟨z_1, ?_⟩) ?_ ?_
              rotate_left
              · intro w'
                go_simp
                with_reducible rfl
              rotate_left
              · simp only [Act.put, List.setIfInBounds_toArray, List.set_cons_zero, List.set_cons_succ, i64_w, i32_w]
                rfl
              refine take_ (i := 5) (N := some 55) (v := ?_) (a' := ?_) #[T,T,T,T,T,T,T,T,T,F,F,F,F,F,F,F,F,F,F] rfl rfl (take_ofW HT_.out HW_.out (z_0)) (fun _ _ _ h => h) (Or.inl ⟨z_1, ?_⟩) hHeld ?_ ?_
              rotate_left
              · rintro w' ⟨s0, s1⟩
                go_simp
                with_reducible rfl
              rotate_left
              · simp only [Act.put, List.setIfInBounds_toArray, List.set_cons_zero, List.set_cons_succ, i64_w, i32_w]
                rfl
              refine take_ (i := 9) (N := some 59) (v := ?_) (a' := ?_) #[T,T,T,T,T,T,T,T,T,T,F,F,F,F,F,F,F,F,F] rfl rfl (take_ofW HT_.out HW_.out (z_0)) (fun _ _ _ h => h) (Or.inl ⟨z_1, ?_⟩) hHeld ?_ ?_
              rotate_left
              · rintro w' ⟨s0, s1⟩
                go_simp
                with_reducible rfl
              rotate_left
              · simp only [Act.put, List.setIfInBounds_toArray, List.set_cons_zero, List.set_cons_succ, i64_w, i32_w]
                rfl
              refine join_ (σ := Value × Nat) 3 #[T,T,T,T,T,T,T,T,T,T,T,T,T,T,T,T,F,F,F] (fun s_ => [(60, .tuple #[s_.1, .agg #[.string t420, .int .i64 t421, .int .i64 t422, .string t423, .int .i64 t424], .bool t425]), (13, .pointer (some ⟨s_.2, 0, none⟩)), (49, .tuple #[s_.1, .agg #[.string t420, .int .i64 t421, .int .i64 t422, .string t423, .int .i64 t424], .bool t425]), (61, s_.1), (62, .agg #[.string t420, .int .i64 t421, .int .i64 t422, .string t423, .int .i64 t424]), (63, .bool t425)]) (fun s_ w' => (w'.cell? (ad403.add (x8_1).toNat) = some (.string (rdOf ByteArray.empty t388 x8_1)) ∧ w'.cell? (ad404.add (x8_1).toNat) = some (.int .i64 (rd t389 x8_1))) ∧ (Kd.R k83 83 w' w.heap.size (fun k_ => some k_ ≠ (s_.1 : Value).ownBlock ∧ some k_ ≠ (.slice Ao16 x6_1.length co16 : Value).ownBlock ∧ some k_ ≠ (.slice Ao28 x7_1.length co28 : Value).ownBlock) v406 t405) ∧ (Kd.Q k83 83 w' w.heap.size (fun k_ => some k_ ≠ (v406 : Value).ownBlock ∧ some k_ ≠ (.slice Ao16 x6_1.length co16 : Value).ownBlock ∧ some k_ ≠ (.slice Ao28 x7_1.length co28 : Value).ownBlock) s_.1 t417) ∧ (Kd.R k26 26 w' w.heap.size (fun k_ => k_ ≠ gb414 ∧ k_ ≠ s_.2) (.slice Ao17 t387.length co17) t387) ∧ (Kd.R Kd.string 9 w' w.heap.size (fun _ => True) (.slice (some ad403) t388.length co15) t388) ∧ (Kd.R (Kd.int .i64) 3 w' w.heap.size (fun _ => True) (.slice (some ad404) t389.length co19) t389) ∧ (Kd.R k83 83 w' w.heap.size (fun k_ => some k_ ≠ (v406 : Value).ownBlock ∧ some k_ ≠ (s_.1 : Value).ownBlock ∧ some k_ ≠ (.slice Ao28 x7_1.length co28 : Value).ownBlock) (.slice Ao16 x6_1.length co16) x6_1) ∧ (Kd.Q k83 83 w' w.heap.size (fun k_ => some k_ ≠ (v406 : Value).ownBlock ∧ some k_ ≠ (s_.1 : Value).ownBlock ∧ some k_ ≠ (.slice Ao16 x6_1.length co16 : Value).ownBlock) (.slice Ao28 x7_1.length co28) x7_1) ∧ (w'.heap[gb414]? = some (.cells #[.string t408, .int .i64 t409, .int .i64 t410, .string t411, .int .i64 t412] 26 (0, 0))) ∧ (w'.heap[s_.2]? = some (.cells #[.string (⟨#[]⟩ : ByteArray), .int .i64 0, .int .i64 0, .string (⟨#[]⟩ : ByteArray), .int .i64 0] 26 (0, 0))) ∧ (w.heap.size ≤ s_.2) ∧ (w.heap.size ≤ s_.2) ∧ (gb414 ≠ s_.2) ∧ (s_.2 ≠ gb414) ∧ (Below w.heap.size w w')) ?_ ?_
              rotate_left
              · intro hCont
                refine two_ (i := 10) (j := 15) (Ni := some 60) (Nj := some 13) #[T,T,T,T,T,T,T,T,T,T,T,F,F,F,F,F,F,F,F] #[T,T,T,T,T,T,T,T,T,T,F,F,F,F,F,T,F,F,F] rfl rfl rfl rfl (two_of HT_.out (z_0)) (z_5) (z_5) (fun K hK => ?_) (fun K hK => ?_)
                · skip
                  refine goes_ Try.func45 (z_0) rfl #[.slice Ao28 x7_1.length co28, .slice Ao17 t387.length co17, .string (rdOf ByteArray.empty t388 x8_1), .int .i64 (rd t389 x8_1)] (z_1) rfl rfl (z_14) ?_
                  with_reducible refine (spec_KeptAsk.calls k1 _ _ x7_1 _ _ t387 (rdOf ByteArray.empty t388 x8_1) (rd t389 x8_1) t417 t420 t421 t422 t423 t424 t425 _ ?side1 ?side2 ?side3 ?side4 A13.out).mono ?_
                  (case side1 => exact z_149)
                  (case side2 => exact (Kd.Q_reads' HO_7.out).2.1)
                  (case side3 => exact z_134)
                  (case side4 => exact z_135)
                  rintro e w31 ⟨v418, rfl, ho0, hb⟩
                  have HS0_ := (hb.cell (World.block_lt_of_cell? _ _ (hHeld.1))).trans (hHeld.1)
                  have HS1_ := (hb.cell (World.block_lt_of_cell? _ _ (hHeld.2))).trans (hHeld.2)
                  refine ⟨_, rfl, ?_⟩
                  have n0_ := Aside0.mk (Kd.R_below (z_136) hb)
                  have n1_ := Aside0.mk (Kd.R_below (z_137) hb)
                  have n2_ := Aside0.mk (Kd.R_below (z_11) hb)
                  have n3_ := Aside0.mk (Kd.R_elder' (z_59) (Kd.Q_base ho0) hb)
                  have n4_ := Aside0.mk (Kd.Q_elder' (z_138) (Kd.Q_base ho0) hb)
                  have n5_ := Aside0.mk (Kd.R_elder' (z_139) (Kd.Q_base ho0) hb)
                  have n6_ := Aside0.mk (Kd.Q_lower (Kd.Q_new' (Kd.Q_new' (Kd.Q_new' ho0 (Kd.R_lt (z_59))) (Kd.Q_lt (z_138))) (Kd.R_lt (z_139))) (below_size (z_146)))
                  have n7_ := Aside0.mk (blk_below (g := gb414) (o := .cells #[.string t408, .int .i64 t409, .int .i64 t410, .string t411, .int .i64 t412] 26 (0, 0)) (z_145) hb)
                  have n8_ := Aside0.mk (below_step (z_146) hb)
                  clear HO_3
                  clear HO_4
                  clear HO_5
                  clear HO_6
                  clear HO_7
                  clear HO407
                  clear BK414
                  clear HB
                  have HO_3 := n0_
                  have HO_4 := n1_
                  have HO_5 := n2_
                  have HO_6 := n3_
                  have HO_7 := n4_
                  have HO407 := n5_
                  have HO419 := n6_
                  have BK414 := n7_
                  have HB := n8_
                  clear n0_ n1_ n2_ n3_ n4_ n5_ n6_ n7_ n8_
                  (try clear hb)
                  (try clear hb2)
                  (try clear hk)
                  (try clear hi)
                  (try clear ho0)
                  refine hK.out _ _ ⟨HS0_, HS1_⟩ (fun hHeld => ?_)
                  clear hK K
                  refine norm_ (a' := ?_) ?_ ?_
                  rotate_left
                  · show Act.put _ (some 60) _ = _
                    simp only [Act.put, List.setIfInBounds_toArray, List.set_cons_zero, List.set_cons_succ, i64_w, i32_w]
                    rfl
                  refine pure_ (i := 11) (N := some 49) (v := ?_) (a' := ?_) #[T,T,T,T,T,T,T,T,T,T,T,T,F,F,F,F,F,F,F] rfl rfl (any_of HT_.out (z_0)) (fun _ _ _ h => h) (Or.inl ⟨z_1, ?_⟩) ?_ ?_
                  rotate_left
                  · intro w'
                    go_simp
                    with_reducible rfl
                  rotate_left
                  · simp only [Act.put, List.setIfInBounds_toArray, List.set_cons_zero, List.set_cons_succ, i64_w, i32_w]
                    rfl
                  refine pure_ (i := 12) (N := some 61) (v := ?_) (a' := ?_) #[T,T,T,T,T,T,T,T,T,T,T,T,T,F,F,F,F,F,F] rfl rfl (any_of HT_.out (z_0)) (fun _ _ _ h => h) (Or.inl ⟨z_1, ?_⟩) ?_ ?_
                  rotate_left
                  · intro w'
                    go_simp
                    with_reducible rfl
                  rotate_left
                  · simp only [Act.put, List.setIfInBounds_toArray, List.set_cons_zero, List.set_cons_succ, i64_w, i32_w]
                    rfl
                  refine pure_ (i := 13) (N := some 62) (v := ?_) (a' := ?_) #[T,T,T,T,T,T,T,T,T,T,T,T,T,T,F,F,F,F,F] rfl rfl (any_of HT_.out (z_0)) (fun _ _ _ h => h) (Or.inl ⟨z_1, ?_⟩) ?_ ?_
                  rotate_left
                  · intro w'
                    go_simp
                    with_reducible rfl
                  rotate_left
                  · simp only [Act.put, List.setIfInBounds_toArray, List.set_cons_zero, List.set_cons_succ, i64_w, i32_w]
                    rfl
                  refine pure_ (i := 14) (N := some 63) (v := ?_) (a' := ?_) #[T,T,T,T,T,T,T,T,T,T,T,T,T,T,T,F,F,F,F] rfl rfl (any_of HT_.out (z_0)) (fun _ _ _ h => h) (Or.inl ⟨z_1, ?_⟩) ?_ ?_
                  rotate_left
                  · intro w'
                    go_simp
                    with_reducible rfl
                  rotate_left
                  · simp only [Act.put, List.setIfInBounds_toArray, List.set_cons_zero, List.set_cons_succ, i64_w, i32_w]
                    rfl
                  refine one_ (i := 15) (N := some 13) #[T,T,T,T,T,T,T,T,T,T,T,T,T,T,T,T,F,F,F] rfl rfl (one_of HT_.out (z_0)) (z_5) (fun K hK => ?_)
                  refine box_step ?hg (N := 13) ?hd (cs := #[.string (⟨#[]⟩ : ByteArray), .int .i64 0, .int .i64 0, .string (⟨#[]⟩ : ByteArray), .int .i64 0]) (t := 26) ?hr ?_; (case hd => rfl); (case hg => rfl); (case hr => exact z_9)
                  intro gb426 hg w32 hbox hb
                  have HS0_ := (hb.cell (World.block_lt_of_cell? _ _ (hHeld.1))).trans (hHeld.1)
                  have HS1_ := (hb.cell (World.block_lt_of_cell? _ _ (hHeld.2))).trans (hHeld.2)
                  have n0_ := Aside0.mk (Kd.R_below (Kd.R_elderB (z_136) gb426 (Nat.le_of_eq hg.symm)) hb)
                  have n1_ := Aside0.mk (Kd.R_below (z_137) hb)
                  have n2_ := Aside0.mk (Kd.R_below (z_11) hb)
                  have n3_ := Aside0.mk (Kd.R_below (z_59) hb)
                  have n4_ := Aside0.mk (Kd.Q_below (z_138) hb)
                  have n5_ := Aside0.mk (Kd.R_below (z_139) hb)
                  have n6_ := Aside0.mk (Kd.Q_below (by (with_reducible repeat (first | apply Kd.Q_alloc | apply Kd.Q_drewN | apply Kd.Q_drew)); exact HO419.out) hb)
                  have n7_ := Aside0.mk (blk_below (g := gb414) (o := .cells #[.string t408, .int .i64 t409, .int .i64 t410, .string t411, .int .i64 t412] 26 (0, 0)) (z_145) hb)
                  have n8_ := Aside0.mk (below_step (z_146) hb)
                  have n9_ := Aside0.mk (hbox)
                  have n10_ := Aside0.mk ((z_150 : w.heap.size ≤ gb426))
                  have n11_ := Aside0.mk ((z_150 : w.heap.size ≤ gb426))
                  have n12_ := Aside0.mk ((z_151 : gb414 ≠ gb426))
                  have n13_ := Aside0.mk ((z_152 : gb426 ≠ gb414))
                  clear HO_3
                  clear HO_4
                  clear HO_5
                  clear HO_6
                  clear HO_7
                  clear HO407
                  clear HO419
                  clear BK414
                  clear HB
                  have HO_3 := n0_
                  have HO_4 := n1_
                  have HO_5 := n2_
                  have HO_6 := n3_
                  have HO_7 := n4_
                  have HO407 := n5_
                  have HO419 := n6_
                  have BK414 := n7_
                  have HB := n8_
                  have BK426 := n9_
                  have GW426 := n10_
                  have GE426 := n11_
                  have NB414_426 := n12_
                  have NB426_414 := n13_
                  clear n0_ n1_ n2_ n3_ n4_ n5_ n6_ n7_ n8_ n9_ n10_ n11_ n12_ n13_
                  clear hb hbox hg
                  refine hK.out _ _ ⟨HS0_, HS1_⟩ (fun hHeld => ?_)
                  clear hK K
                  refine norm_ (a' := ?_) ?_ ?_
                  rotate_left
                  · show Act.put _ (some 13) _ = _
                    simp only [Act.put, List.setIfInBounds_toArray, List.set_cons_zero, List.set_cons_succ, i64_w, i32_w]
                    rfl
                  exact norm_ (z_140) (hCont (v418, gb426) _ ⟨hHeld, (z_153), (z_154), (z_136), (z_137), (z_11), (z_155), (z_156), (z_145), (z_157), GW426.out, GE426.out, NB414_426.out, NB426_414.out, (z_158)⟩)
                · skip
                  refine box_step ?hg (N := 13) ?hd (cs := #[.string (⟨#[]⟩ : ByteArray), .int .i64 0, .int .i64 0, .string (⟨#[]⟩ : ByteArray), .int .i64 0]) (t := 26) ?hr ?_; (case hd => rfl); (case hg => rfl); (case hr => exact z_9)
                  intro gb426 hg w31 hbox hb
                  have HS0_ := (hb.cell (World.block_lt_of_cell? _ _ (hHeld.1))).trans (hHeld.1)
                  have HS1_ := (hb.cell (World.block_lt_of_cell? _ _ (hHeld.2))).trans (hHeld.2)
                  have n0_ := Aside0.mk (Kd.R_below (Kd.R_elderB (z_136) gb426 (Nat.le_of_eq hg.symm)) hb)
                  have n1_ := Aside0.mk (Kd.R_below (z_137) hb)
                  have n2_ := Aside0.mk (Kd.R_below (z_11) hb)
                  have n3_ := Aside0.mk (Kd.R_below (z_59) hb)
                  have n4_ := Aside0.mk (Kd.Q_below (z_138) hb)
                  have n5_ := Aside0.mk (Kd.R_below (z_139) hb)
                  have n6_ := Aside0.mk (blk_below (g := gb414) (o := .cells #[.string t408, .int .i64 t409, .int .i64 t410, .string t411, .int .i64 t412] 26 (0, 0)) (z_145) hb)
                  have n7_ := Aside0.mk (below_step (z_146) hb)
                  have n8_ := Aside0.mk (hbox)
                  have n9_ := Aside0.mk ((z_150 : w.heap.size ≤ gb426))
                  have n10_ := Aside0.mk ((z_150 : w.heap.size ≤ gb426))
                  have n11_ := Aside0.mk ((z_151 : gb414 ≠ gb426))
                  have n12_ := Aside0.mk ((z_152 : gb426 ≠ gb414))
                  clear HO_3
                  clear HO_4
                  clear HO_5
                  clear HO_6
                  clear HO_7
                  clear HO407
                  clear BK414
                  clear HB
                  have HO_3 := n0_
                  have HO_4 := n1_
                  have HO_5 := n2_
                  have HO_6 := n3_
                  have HO_7 := n4_
                  have HO407 := n5_
                  have BK414 := n6_
                  have HB := n7_
                  have BK426 := n8_
                  have GW426 := n9_
                  have GE426 := n10_
                  have NB414_426 := n11_
                  have NB426_414 := n12_
                  clear n0_ n1_ n2_ n3_ n4_ n5_ n6_ n7_ n8_ n9_ n10_ n11_ n12_
                  clear hb hbox hg
                  refine hK.out _ _ ⟨HS0_, HS1_⟩ (fun hHeld => ?_)
                  clear hK K
                  refine norm_ (a' := ?_) ?_ ?_
                  rotate_left
                  · show Act.put _ (some 13) _ = _
                    simp only [Act.put, List.setIfInBounds_toArray, List.set_cons_zero, List.set_cons_succ, i64_w, i32_w]
                    rfl
                  refine one_ (i := 10) (N := some 60) #[T,T,T,T,T,T,T,T,T,T,T,F,F,F,F,T,F,F,F] rfl rfl (one_of HT_.out (z_0)) (z_5) (fun K hK => ?_)
                  refine goes_ Try.func45 (z_0) rfl #[.slice Ao28 x7_1.length co28, .slice Ao17 t387.length co17, .string (rdOf ByteArray.empty t388 x8_1), .int .i64 (rd t389 x8_1)] (z_1) rfl rfl (z_14) ?_
                  with_reducible refine (spec_KeptAsk.calls k1 _ _ x7_1 _ _ t387 (rdOf ByteArray.empty t388 x8_1) (rd t389 x8_1) t417 t420 t421 t422 t423 t424 t425 _ ?side1 ?side2 ?side3 ?side4 A13.out).mono ?_
                  (case side1 => exact z_149)
                  (case side2 => exact (Kd.Q_reads' HO_7.out).2.1)
                  (case side3 => exact z_134)
                  (case side4 => exact z_135)
                  rintro e w32 ⟨v418, rfl, ho0, hb⟩
                  have HS0_ := (hb.cell (World.block_lt_of_cell? _ _ (hHeld.1))).trans (hHeld.1)
                  have HS1_ := (hb.cell (World.block_lt_of_cell? _ _ (hHeld.2))).trans (hHeld.2)
                  refine ⟨_, rfl, ?_⟩
                  have n0_ := Aside0.mk (Kd.R_below (z_136) hb)
                  have n1_ := Aside0.mk (Kd.R_below (z_137) hb)
                  have n2_ := Aside0.mk (Kd.R_below (z_11) hb)
                  have n3_ := Aside0.mk (Kd.R_elder' (z_59) (Kd.Q_base ho0) hb)
                  have n4_ := Aside0.mk (Kd.Q_elder' (z_138) (Kd.Q_base ho0) hb)
                  have n5_ := Aside0.mk (Kd.R_elder' (z_139) (Kd.Q_base ho0) hb)
                  have n6_ := Aside0.mk (Kd.Q_lower (Kd.Q_new' (Kd.Q_new' (Kd.Q_new' ho0 (Kd.R_lt (z_59))) (Kd.Q_lt (z_138))) (Kd.R_lt (z_139))) (below_size (z_158)))
                  have n7_ := Aside0.mk (blk_below (g := gb414) (o := .cells #[.string t408, .int .i64 t409, .int .i64 t410, .string t411, .int .i64 t412] 26 (0, 0)) (z_145) hb)
                  have n8_ := Aside0.mk (blk_below (g := gb426) (o := .cells #[.string (⟨#[]⟩ : ByteArray), .int .i64 0, .int .i64 0, .string (⟨#[]⟩ : ByteArray), .int .i64 0] 26 (0, 0)) (z_157) hb)
                  have n9_ := Aside0.mk (below_step (z_158) hb)
                  clear HO_3
                  clear HO_4
                  clear HO_5
                  clear HO_6
                  clear HO_7
                  clear HO407
                  clear BK414
                  clear BK426
                  clear HB
                  have HO_3 := n0_
                  have HO_4 := n1_
                  have HO_5 := n2_
                  have HO_6 := n3_
                  have HO_7 := n4_
                  have HO407 := n5_
                  have HO419 := n6_
                  have BK414 := n7_
                  have BK426 := n8_
                  have HB := n9_
                  clear n0_ n1_ n2_ n3_ n4_ n5_ n6_ n7_ n8_ n9_
                  (try clear hb)
                  (try clear hb2)
                  (try clear hk)
                  (try clear hi)
                  (try clear ho0)
                  refine hK.out _ _ ⟨HS0_, HS1_⟩ (fun hHeld => ?_)
                  clear hK K
                  refine norm_ (a' := ?_) ?_ ?_
                  rotate_left
                  · show Act.put _ (some 60) _ = _
                    simp only [Act.put, List.setIfInBounds_toArray, List.set_cons_zero, List.set_cons_succ, i64_w, i32_w]
                    rfl
                  refine pure_ (i := 11) (N := some 49) (v := ?_) (a' := ?_) #[T,T,T,T,T,T,T,T,T,T,T,T,F,F,F,T,F,F,F] rfl rfl (any_of HT_.out (z_0)) (fun _ _ _ h => h) (Or.inl ⟨z_1, ?_⟩) ?_ ?_
                  rotate_left
                  · intro w'
                    go_simp
                    with_reducible rfl
                  rotate_left
                  · simp only [Act.put, List.setIfInBounds_toArray, List.set_cons_zero, List.set_cons_succ, i64_w, i32_w]
                    rfl
                  refine pure_ (i := 12) (N := some 61) (v := ?_) (a' := ?_) #[T,T,T,T,T,T,T,T,T,T,T,T,T,F,F,T,F,F,F] rfl rfl (any_of HT_.out (z_0)) (fun _ _ _ h => h) (Or.inl ⟨z_1, ?_⟩) ?_ ?_
                  rotate_left
                  · intro w'
                    go_simp
                    with_reducible rfl
                  rotate_left
                  · simp only [Act.put, List.setIfInBounds_toArray, List.set_cons_zero, List.set_cons_succ, i64_w, i32_w]
                    rfl
                  refine pure_ (i := 13) (N := some 62) (v := ?_) (a' := ?_) #[T,T,T,T,T,T,T,T,T,T,T,T,T,T,F,T,F,F,F] rfl rfl (any_of HT_.out (z_0)) (fun _ _ _ h => h) (Or.inl ⟨z_1, ?_⟩) ?_ ?_
                  rotate_left
                  · intro w'
                    go_simp
                    with_reducible rfl
                  rotate_left
                  · simp only [Act.put, List.setIfInBounds_toArray, List.set_cons_zero, List.set_cons_succ, i64_w, i32_w]
                    rfl
                  refine pure_ (i := 14) (N := some 63) (v := ?_) (a' := ?_) #[T,T,T,T,T,T,T,T,T,T,T,T,T,T,T,T,F,F,F] rfl rfl (any_of HT_.out (z_0)) (fun _ _ _ h => h) (Or.inl ⟨z_1, ?_⟩) ?_ ?_
                  rotate_left
                  · intro w'
                    go_simp
                    with_reducible rfl
                  rotate_left
                  · simp only [Act.put, List.setIfInBounds_toArray, List.set_cons_zero, List.set_cons_succ, i64_w, i32_w]
                    rfl
                  exact norm_ (z_140) (hCont (v418, gb426) _ ⟨hHeld, (z_153), (z_154), (z_136), (z_137), (z_11), (z_155), (z_156), (z_145), (z_157), GW426.out, GE426.out, NB414_426.out, NB426_414.out, (z_158)⟩)
              rintro ⟨v418, gb426⟩ w33 ⟨hS_, h0_, h1_, h2_, h3_, h4_, h5_, h6_, h7_, h8_, h9_, h10_, h11_, h12_, h13_⟩
              have n0_ : Aside0 (Kd.R k83 83 w33 w.heap.size (fun k_ => some k_ ≠ (v418 : Value).ownBlock ∧ some k_ ≠ (.slice Ao16 x6_1.length co16 : Value).ownBlock ∧ some k_ ≠ (.slice Ao28 x7_1.length co28 : Value).ownBlock) v406 t405) := ⟨h0_⟩
              have n1_ : Aside0 (Kd.Q k83 83 w33 w.heap.size (fun k_ => some k_ ≠ (v406 : Value).ownBlock ∧ some k_ ≠ (.slice Ao16 x6_1.length co16 : Value).ownBlock ∧ some k_ ≠ (.slice Ao28 x7_1.length co28 : Value).ownBlock) v418 t417) := ⟨h1_⟩
              have n2_ : Aside0 (Kd.R k26 26 w33 w.heap.size (fun k_ => k_ ≠ gb414 ∧ k_ ≠ gb426) (.slice Ao17 t387.length co17) t387) := ⟨h2_⟩
              have n3_ : Aside0 (Kd.R Kd.string 9 w33 w.heap.size (fun _ => True) (.slice (some ad403) t388.length co15) t388) := ⟨h3_⟩
              have n4_ : Aside0 (Kd.R (Kd.int .i64) 3 w33 w.heap.size (fun _ => True) (.slice (some ad404) t389.length co19) t389) := ⟨h4_⟩
              have n5_ : Aside0 (Kd.R k83 83 w33 w.heap.size (fun k_ => some k_ ≠ (v406 : Value).ownBlock ∧ some k_ ≠ (v418 : Value).ownBlock ∧ some k_ ≠ (.slice Ao28 x7_1.length co28 : Value).ownBlock) (.slice Ao16 x6_1.length co16) x6_1) := ⟨h5_⟩
              have n6_ : Aside0 (Kd.Q k83 83 w33 w.heap.size (fun k_ => some k_ ≠ (v406 : Value).ownBlock ∧ some k_ ≠ (v418 : Value).ownBlock ∧ some k_ ≠ (.slice Ao16 x6_1.length co16 : Value).ownBlock) (.slice Ao28 x7_1.length co28) x7_1) := ⟨h6_⟩
              have n7_ : Aside0 (w33.heap[gb414]? = some (.cells #[.string t408, .int .i64 t409, .int .i64 t410, .string t411, .int .i64 t412] 26 (0, 0))) := ⟨h7_⟩
              have n8_ : Aside0 (w33.heap[gb426]? = some (.cells #[.string (⟨#[]⟩ : ByteArray), .int .i64 0, .int .i64 0, .string (⟨#[]⟩ : ByteArray), .int .i64 0] 26 (0, 0))) := ⟨h8_⟩
              have n9_ : Aside0 (w.heap.size ≤ gb426) := ⟨h9_⟩
              have n10_ : Aside0 (w.heap.size ≤ gb426) := ⟨h10_⟩
              have n11_ : Aside0 (gb414 ≠ gb426) := ⟨h11_⟩
              have n12_ : Aside0 (gb426 ≠ gb414) := ⟨h12_⟩
              have n13_ : Aside0 (Below w.heap.size w w33) := ⟨h13_⟩
              clear HO_3
              clear HO_4
              clear HO_5
              clear HO_6
              clear HO_7
              clear HO407
              clear BK414
              clear HB
              clear h0_ h1_ h2_ h3_ h4_ h5_ h6_ h7_ h8_ h9_ h10_ h11_ h12_ h13_
              have HO407 := n0_
              have HO419 := n1_
              have HO_3 := n2_
              have HO_4 := n3_
              have HO_5 := n4_
              have HO_6 := n5_
              have HO_7 := n6_
              have BK414 := n7_
              have BK426 := n8_
              have GW426 := n9_
              have GE426 := n10_
              have NB414_426 := n11_
              have NB426_414 := n12_
              have HB := n13_
              clear n0_ n1_ n2_ n3_ n4_ n5_ n6_ n7_ n8_ n9_ n10_ n11_ n12_ n13_
              have hHeld : w33.cell? (ad403.add (x8_1).toNat) = some (.string (rdOf ByteArray.empty t388 x8_1)) ∧ w33.cell? (ad404.add (x8_1).toNat) = some (.int .i64 (rd t389 x8_1)) := hS_
              refine norm_ (a' := ?_) ?_ ?_
              rotate_left
              · simp only [putAll, Act.put, List.setIfInBounds_toArray, List.set_cons_zero, List.set_cons_succ]
                rfl
              refine pure_ (i := 16) (N := some 12) (v := ?_) (a' := ?_) #[T,T,T,T,T,T,T,T,T,T,T,T,T,T,T,T,T,F,F] rfl rfl (any_of HT_.out (z_0)) (fun _ _ _ h => h) (Or.inl ⟨z_1, ?_⟩) ?_ ?_
              rotate_left
              · intro w'
                go_simp
                with_reducible rfl
              rotate_left
              · simp only [Act.put, List.setIfInBounds_toArray, List.set_cons_zero, List.set_cons_succ, i64_w, i32_w]
                rfl
              refine one_ (i := 17) (N := none) #[T,T,T,T,T,T,T,T,T,T,T,T,T,T,T,T,T,T,F] rfl rfl (one_of HT_.out (z_0)) (z_5) (fun K hK => ?_)
              have hs34 : w33.cell? ⟨gb426, 0, none⟩ = some (.string (⟨#[]⟩ : ByteArray)) := (blk_cell BK426.out 0).trans rfl
              have hfs34 := blk_frozen BK426.out 0
              have hns34_0 := NB414_426.out
              have hms34_0 := NB426_414.out
              have hs35 : w33.cell? ⟨gb426, 1, none⟩ = some (.int .i64 0) := (blk_cell BK426.out 1).trans rfl
              have hfs35 := blk_frozen BK426.out 1
              have hns35_0 := NB414_426.out
              have hms35_0 := NB426_414.out
              have hs36 : w33.cell? ⟨gb426, 2, none⟩ = some (.int .i64 0) := (blk_cell BK426.out 2).trans rfl
              have hfs36 := blk_frozen BK426.out 2
              have hns36_0 := NB414_426.out
              have hms36_0 := NB426_414.out
              have hs37 : w33.cell? ⟨gb426, 3, none⟩ = some (.string (⟨#[]⟩ : ByteArray)) := (blk_cell BK426.out 3).trans rfl
              have hfs37 := blk_frozen BK426.out 3
              have hns37_0 := NB414_426.out
              have hms37_0 := NB426_414.out
              have hs38 : w33.cell? ⟨gb426, 4, none⟩ = some (.int .i64 0) := (blk_cell BK426.out 4).trans rfl
              have hfs38 := blk_frozen BK426.out 4
              have hns38_0 := NB414_426.out
              have hms38_0 := NB426_414.out
              refine skip_ (w1 := ?_) (z_1) rfl ?_ ?_
              rotate_left
              · go_simp
                rfl
              refine hK.out _ _ ⟨((cell_far (p := ⟨gb426, _, none⟩) (z_159) _).trans (((cell_far (p := ⟨gb426, _, none⟩) (z_159) _).trans (((cell_far (p := ⟨gb426, _, none⟩) (z_159) _).trans (((cell_far (p := ⟨gb426, _, none⟩) (z_159) _).trans (((cell_far (p := ⟨gb426, _, none⟩) (z_159) _).trans (hHeld.1)))))))))), ((cell_far (p := ⟨gb426, _, none⟩) (z_160) _).trans (((cell_far (p := ⟨gb426, _, none⟩) (z_160) _).trans (((cell_far (p := ⟨gb426, _, none⟩) (z_160) _).trans (((cell_far (p := ⟨gb426, _, none⟩) (z_160) _).trans (((cell_far (p := ⟨gb426, _, none⟩) (z_160) _).trans (hHeld.2))))))))))⟩ (fun hHeld => ?_)
              clear hK K
              refine pure_ (i := 18) (N := some 14) (v := ?_) (a' := ?_) #[T,T,T,T,T,T,T,T,T,T,T,T,T,T,T,T,T,T,T] rfl rfl (any_of HT_.out (z_0)) (fun _ _ _ h => h) (Or.inl ⟨z_1, ?_⟩) ?_ ?_
              rotate_left
              · intro w'
                go_simp
                with_reducible rfl
              rotate_left
              · simp only [Act.put, List.setIfInBounds_toArray, List.set_cons_zero, List.set_cons_succ, i64_w, i32_w]
                rfl
              refine done_ (done_of HT_.out (z_0)) ?_
              go_upto_region 11 with (fail)
              go_cut [77] (fun v77 wc => ∃ (kq : Nat) (x77_13 : Bool), v77 = .bool x77_13 ∧ Aside0 (laws_FnTexts.j1 kq t387 t388 t389 x8_1 t405 t417 x77_13 t408 t409 t410 t411 t412 = some r) ∧ Aside0 (kq ≤ k1) ∧ Aside0 (Kd.R k26 26 wc w.heap.size (fun k_ => k_ ≠ gb414 ∧ k_ ≠ gb426) (.slice Ao17 t387.length co17) t387) ∧ Aside0 (Kd.R Kd.string 9 wc w.heap.size (fun _ => True) (.slice (some ad403) t388.length co15) t388) ∧ Aside0 (Kd.R (Kd.int .i64) 3 wc w.heap.size (fun _ => True) (.slice (some ad404) t389.length co19) t389) ∧ Aside0 (Kd.R k83 83 wc w.heap.size (fun k_ => some k_ ≠ (v418 : Value).ownBlock) v406 t405) ∧ Aside0 (Kd.Q k83 83 wc w.heap.size (fun k_ => some k_ ≠ (v406 : Value).ownBlock) v418 t417) ∧ Aside0 (wc.heap[gb414]? = some (.cells #[.string t408, .int .i64 t409, .int .i64 t410, .string t411, .int .i64 t412] 26 (0, 0))) ∧ Aside0 (wc.heap[gb426]? = some (.cells #[.string t420, .int .i64 t421, .int .i64 t422, .string t423, .int .i64 t424] 26 (0, 0))) ∧ Aside0 (Below w.heap.size w wc))
              case first =>
                have H := HC14.out
                clear HC14
                by_cases c39 : (!(t408.toList == t420.toList) || (!(t409 == t421) || (!(t410 == t422) || (!(t411.toList == t423.toList) || (!(t412 == t424)))))) = true
                · rw [if_pos c39] at H
                  have c39b0 : (!(t408.toList == t420.toList) || (!(t409 == t421) || (!(t410 == t422) || (!(t411.toList == t423.toList) || (!(t412 == t424)))))) = true := c39
                  clear c39
                  (first | rw [c39b0] | (simp only [i64_w, i32_w]; rw [c39b0]) | skip)
                  have H' := Aside0.mk H
                  clear H
                  have hnb40 := NB414_426.out
                  have hnc40 := NB426_414.out
                  have hcz41_0 : w33.cell? ⟨gb414, 0, none⟩ = some (.string t408) := (blk_cell BK414.out 0).trans rfl
                  have hcz41_1 : w33.cell? ⟨gb414, 1, none⟩ = some (.int .i64 t409) := (blk_cell BK414.out 1).trans rfl
                  have hcz41_2 : w33.cell? ⟨gb414, 2, none⟩ = some (.int .i64 t410) := (blk_cell BK414.out 2).trans rfl
                  have hcz41_3 : w33.cell? ⟨gb414, 3, none⟩ = some (.string t411) := (blk_cell BK414.out 3).trans rfl
                  have hcz41_4 : w33.cell? ⟨gb414, 4, none⟩ = some (.int .i64 t412) := (blk_cell BK414.out 4).trans rfl
                  have hfz41_0 := blk_frozen BK414.out 0
                  have hfz41_1 := blk_frozen BK414.out 1
                  have hfz41_2 := blk_frozen BK414.out 2
                  have hfz41_3 := blk_frozen BK414.out 3
                  have hfz41_4 := blk_frozen BK414.out 4
                  have hcz42_0 : w33.cell? ⟨gb426, 0, none⟩ = some (.string (⟨#[]⟩ : ByteArray)) := (blk_cell BK426.out 0).trans rfl
                  have hcz42_1 : w33.cell? ⟨gb426, 1, none⟩ = some (.int .i64 0) := (blk_cell BK426.out 1).trans rfl
                  have hcz42_2 : w33.cell? ⟨gb426, 2, none⟩ = some (.int .i64 0) := (blk_cell BK426.out 2).trans rfl
                  have hcz42_3 : w33.cell? ⟨gb426, 3, none⟩ = some (.string (⟨#[]⟩ : ByteArray)) := (blk_cell BK426.out 3).trans rfl
                  have hcz42_4 : w33.cell? ⟨gb426, 4, none⟩ = some (.int .i64 0) := (blk_cell BK426.out 4).trans rfl
                  have hfz42_0 := blk_frozen BK426.out 0
                  have hfz42_1 := blk_frozen BK426.out 1
                  have hfz42_2 := blk_frozen BK426.out 2
                  have hfz42_3 := blk_frozen BK426.out 3
                  have hfz42_4 := blk_frozen BK426.out 4
                  go_wp2
                  go_meet
                  case rel => exact ⟨_, (true), (z_3), H', ⟨z_103⟩, ⟨z_161⟩, ⟨z_162⟩, ⟨z_163⟩, ⟨z_164⟩, ⟨z_165⟩, ⟨z_166⟩, ⟨z_167⟩, ⟨z_158⟩⟩
                · rw [if_neg c39] at H
                  have c39b0 : (!(t408.toList == t420.toList) || (!(t409 == t421) || (!(t410 == t422) || (!(t411.toList == t423.toList) || (!(t412 == t424)))))) = false := by simpa using c39
                  clear c39
                  (first | rw [c39b0] | (simp only [i64_w, i32_w]; rw [c39b0]) | skip)
                  by_cases c43 : (t413 != t425) = true
                  · rw [if_pos c43] at H
                    have c43b0 : (t413 != t425) = true := c43
                    (try (have c43b1 : decide (t413 = t425) = false := by simpa using c43))
                    (try (have c43b2 : (t413 == t425) = false := by simpa using c43))
                    (try (have c43b3 : ¬ (t413 = t425) := by simpa using c43))
                    clear c43
                    have H' := Aside0.mk H
                    clear H
                    have hnb44 := NB414_426.out
                    have hnc44 := NB426_414.out
                    have hcz45_0 : w33.cell? ⟨gb414, 0, none⟩ = some (.string t408) := (blk_cell BK414.out 0).trans rfl
                    have hcz45_1 : w33.cell? ⟨gb414, 1, none⟩ = some (.int .i64 t409) := (blk_cell BK414.out 1).trans rfl
                    have hcz45_2 : w33.cell? ⟨gb414, 2, none⟩ = some (.int .i64 t410) := (blk_cell BK414.out 2).trans rfl
                    have hcz45_3 : w33.cell? ⟨gb414, 3, none⟩ = some (.string t411) := (blk_cell BK414.out 3).trans rfl
                    have hcz45_4 : w33.cell? ⟨gb414, 4, none⟩ = some (.int .i64 t412) := (blk_cell BK414.out 4).trans rfl
                    have hfz45_0 := blk_frozen BK414.out 0
                    have hfz45_1 := blk_frozen BK414.out 1
                    have hfz45_2 := blk_frozen BK414.out 2
                    have hfz45_3 := blk_frozen BK414.out 3
                    have hfz45_4 := blk_frozen BK414.out 4
                    have hcz46_0 : w33.cell? ⟨gb426, 0, none⟩ = some (.string (⟨#[]⟩ : ByteArray)) := (blk_cell BK426.out 0).trans rfl
                    have hcz46_1 : w33.cell? ⟨gb426, 1, none⟩ = some (.int .i64 0) := (blk_cell BK426.out 1).trans rfl
                    have hcz46_2 : w33.cell? ⟨gb426, 2, none⟩ = some (.int .i64 0) := (blk_cell BK426.out 2).trans rfl
                    have hcz46_3 : w33.cell? ⟨gb426, 3, none⟩ = some (.string (⟨#[]⟩ : ByteArray)) := (blk_cell BK426.out 3).trans rfl
                    have hcz46_4 : w33.cell? ⟨gb426, 4, none⟩ = some (.int .i64 0) := (blk_cell BK426.out 4).trans rfl
                    have hfz46_0 := blk_frozen BK426.out 0
                    have hfz46_1 := blk_frozen BK426.out 1
                    have hfz46_2 := blk_frozen BK426.out 2
                    have hfz46_3 := blk_frozen BK426.out 3
                    have hfz46_4 := blk_frozen BK426.out 4
                    go_wp2
                    go_meet
                    case rel => exact ⟨_, (true), (z_3), H', ⟨z_103⟩, ⟨z_161⟩, ⟨z_162⟩, ⟨z_163⟩, ⟨z_164⟩, ⟨z_165⟩, ⟨z_166⟩, ⟨z_167⟩, ⟨z_158⟩⟩
                  · rw [if_neg c43] at H
                    have c43b0 : (t413 != t425) = false := by simpa using c43
                    (try (have c43b1 : decide (t413 = t425) = true := by simpa using c43))
                    (try (have c43b2 : (t413 == t425) = true := by simpa using c43))
                    clear c43
                    replace H := Option.bind_eq_some_iff.mp H
                    obtain ⟨t427, A470, H⟩ := H
                    have A47 := Aside0.mk A470
                    clear A470
                    have H' := Aside0.mk H
                    clear H
                    have hnb48 := NB414_426.out
                    have hnc48 := NB426_414.out
                    have hcz49_0 : w33.cell? ⟨gb414, 0, none⟩ = some (.string t408) := (blk_cell BK414.out 0).trans rfl
                    have hcz49_1 : w33.cell? ⟨gb414, 1, none⟩ = some (.int .i64 t409) := (blk_cell BK414.out 1).trans rfl
                    have hcz49_2 : w33.cell? ⟨gb414, 2, none⟩ = some (.int .i64 t410) := (blk_cell BK414.out 2).trans rfl
                    have hcz49_3 : w33.cell? ⟨gb414, 3, none⟩ = some (.string t411) := (blk_cell BK414.out 3).trans rfl
                    have hcz49_4 : w33.cell? ⟨gb414, 4, none⟩ = some (.int .i64 t412) := (blk_cell BK414.out 4).trans rfl
                    have hfz49_0 := blk_frozen BK414.out 0
                    have hfz49_1 := blk_frozen BK414.out 1
                    have hfz49_2 := blk_frozen BK414.out 2
                    have hfz49_3 := blk_frozen BK414.out 3
                    have hfz49_4 := blk_frozen BK414.out 4
                    have hcz50_0 : w33.cell? ⟨gb426, 0, none⟩ = some (.string (⟨#[]⟩ : ByteArray)) := (blk_cell BK426.out 0).trans rfl
                    have hcz50_1 : w33.cell? ⟨gb426, 1, none⟩ = some (.int .i64 0) := (blk_cell BK426.out 1).trans rfl
                    have hcz50_2 : w33.cell? ⟨gb426, 2, none⟩ = some (.int .i64 0) := (blk_cell BK426.out 2).trans rfl
                    have hcz50_3 : w33.cell? ⟨gb426, 3, none⟩ = some (.string (⟨#[]⟩ : ByteArray)) := (blk_cell BK426.out 3).trans rfl
                    have hcz50_4 : w33.cell? ⟨gb426, 4, none⟩ = some (.int .i64 0) := (blk_cell BK426.out 4).trans rfl
                    have hfz50_0 := blk_frozen BK426.out 0
                    have hfz50_1 := blk_frozen BK426.out 1
                    have hfz50_2 := blk_frozen BK426.out 2
                    have hfz50_3 := blk_frozen BK426.out 3
                    have hfz50_4 := blk_frozen BK426.out 4
                    obtain ⟨Ao51, co51, eo51⟩ := Kd.R_slice HO407.out
                    subst eo51
                    obtain ⟨Ao52, co52, eo52, _⟩ := Kd.Q_slice HO419.out
                    subst eo52
                    go_wp2_with (first | (go_at_call 46; (with_reducible refine (laws_sameKept.calls k1 _ _ t405 _ _ t417 t427 _ ?side1 ?side2 ?side3 ?side4 A47.out).mono ?_); (case side1 => refine (Kd.R_reads' (e := 83) (base := w.heap.size) (ok := fun k_ => (some k_ ≠ (.slice Ao52 t417.length co52 : Value).ownBlock ∧ (some k_ ≠ (.slice Ao16 x6_1.length co16 : Value).ownBlock ∧ some k_ ≠ (.slice Ao28 x7_1.length co28 : Value).ownBlock))) (n := t405.length) (c := co51) ?_).2.2; exact (by (with_reducible repeat (first | apply Kd.R_alloc | apply Kd.R_drewN | apply Kd.R_drew)); exact (Kd.R_mono (Kd.R_far (p := ⟨gb426, 4, none⟩) (Kd.R_far (p := ⟨gb426, 3, none⟩) (Kd.R_far (p := ⟨gb426, 2, none⟩) (Kd.R_far (p := ⟨gb426, 1, none⟩) (Kd.R_far (p := ⟨gb426, 0, none⟩) (Kd.R_types HO407.out BK426.out (z_5)) (fun _ hk => hk.2) (.string t420)) (fun _ hk => hk.2) (.int .i64 t421)) (fun _ hk => hk.2) (.int .i64 t422)) (fun _ hk => hk.2) (.string t423)) (fun _ hk => hk.2) (.int .i64 t424)) (fun _ h_ => h_.1)))); (case side2 => exact (Kd.R_reads' HO407.out).2.1); (case side3 => refine (Kd.Q_reads' (e := 83) (base := w.heap.size) (ok := fun k_ => (some k_ ≠ (.slice Ao51 t405.length co51 : Value).ownBlock ∧ (some k_ ≠ (.slice Ao16 x6_1.length co16 : Value).ownBlock ∧ some k_ ≠ (.slice Ao28 x7_1.length co28 : Value).ownBlock))) (n := t417.length) (c := co52) ?_).2.2; exact (by (with_reducible repeat (first | apply Kd.Q_alloc | apply Kd.Q_drewN | apply Kd.Q_drew)); exact (Kd.Q_mono (Kd.Q_far (p := ⟨gb426, 4, none⟩) (Kd.Q_far (p := ⟨gb426, 3, none⟩) (Kd.Q_far (p := ⟨gb426, 2, none⟩) (Kd.Q_far (p := ⟨gb426, 1, none⟩) (Kd.Q_far (p := ⟨gb426, 0, none⟩) (Kd.Q_types HO419.out BK426.out (z_5)) (fun _ hk => hk.2) (.string t420)) (fun _ hk => hk.2) (.int .i64 t421)) (fun _ hk => hk.2) (.int .i64 t422)) (fun _ hk => hk.2) (.string t423)) (fun _ hk => hk.2) (.int .i64 t424)) (fun _ h_ => h_.1)))); (case side4 => exact (Kd.Q_reads' HO419.out).2.1); rintro e w' ⟨rfl, ⟨nd, rfl⟩⟩))
                    go_meet
                    case rel => exact ⟨_, (!t427), (z_3), H', ⟨z_103⟩, ⟨z_161⟩, ⟨z_162⟩, ⟨z_163⟩, ⟨z_164⟩, ⟨z_165⟩, ⟨z_166⟩, ⟨z_167⟩, ⟨z_158⟩⟩
              case rest =>
                clear HC14
                try clear p2
                try clear c3
                try clear c4
                try clear p4
                try clear q4
                try clear hx4
                try clear c39
                try clear c39b0
                try clear c40
                try clear p41
                try clear q41
                try clear hx41
                try clear c43
                try clear c43b0
                try clear c43b1
                try clear c43b2
                try clear c44
                try clear c45
                try clear c48
                try clear hcz41_0
                try clear hcz41_1
                try clear hcz41_2
                try clear hcz41_3
                try clear hcz41_4
                try clear hcz42_0
                try clear hcz42_1
                try clear hcz42_2
                try clear hcz42_3
                try clear hcz42_4
                try clear hcz45_0
                try clear hcz45_1
                try clear hcz45_2
                try clear hcz45_3
                try clear hcz45_4
                try clear hcz46_0
                try clear hcz46_1
                try clear hcz46_2
                try clear hcz46_3
                try clear hcz46_4
                try clear hcz49_0
                try clear hcz49_1
                try clear hcz49_2
                try clear hcz49_3
                try clear hcz49_4
                try clear hcz50_0
                try clear hcz50_1
                try clear hcz50_2
                try clear hcz50_3
                try clear hcz50_4
                try clear hfz41_0
                try clear hfz41_1
                try clear hfz41_2
                try clear hfz41_3
                try clear hfz41_4
                try clear hfz42_0
                try clear hfz42_1
                try clear hfz42_2
                try clear hfz42_3
                try clear hfz42_4
                try clear hfz45_0
                try clear hfz45_1
                try clear hfz45_2
                try clear hfz45_3
                try clear hfz45_4
                try clear hfz46_0
                try clear hfz46_1
                try clear hfz46_2
                try clear hfz46_3
                try clear hfz46_4
                try clear hfz49_0
                try clear hfz49_1
                try clear hfz49_2
                try clear hfz49_3
                try clear hfz49_4
                try clear hfz50_0
                try clear hfz50_1
                try clear hfz50_2
                try clear hfz50_3
                try clear hfz50_4
                try clear hx415_0
                try clear hx416_0
                try clear p415
                try clear p416
                try clear q415
                try clear q416
                obtain ⟨kq, x77_13, rfl, HA, HJ13, HO_3, HO_4, HO_5, HO_9, HO_12, BK414, BK426, HB⟩ := hcut
                cases kq with
                | zero => exact absurd HA.out (by simp [laws_FnTexts.j1])
                | succ kj13 =>
                  have H := HA.out
                  clear HA
                  simp only [laws_FnTexts.j1] at H
                  by_cases c53 : x77_13 = true
                  · subst c53
                    rw [if_pos rfl] at H
                    obtain rfl := Option.some.inj H
                    go_wp2
                    go_ret
                    exact ⟨z_13, z_158⟩
                  · replace c53 := Bool.eq_false_iff.mpr c53
                    subst c53
                    rw [if_neg (show ¬ (false = true) by decide)] at H
                    by_cases c54 : 0 ≤ x8_1
                    · rw [if_pos c54] at H
                      have c54b0 : decide (0 ≤ x8_1) = true := decide_eq_true c54
                      clear c54
                      by_cases c55 : x8_1 < (t388.length : Int)
                      · rw [if_pos c55] at H
                        have c55b0 : decide (x8_1 < (t388.length : Int)) = true := decide_eq_true c55
                        clear c55
                        replace H := Option.bind_eq_some_iff.mp H
                        obtain ⟨⟨t429, t430, t431, t432, t433, t434⟩, A560, H⟩ := H
                        replace H : (if t434 = true then (if (!(t408.toList == t429.toList) || (!(t409 == t430) || (!(t410 == t431) || (!(t411.toList == t432.toList) || (!(t412 == t433)))))) = true then (some false) else ((impl_KeptOk.f kj13 t405).bind fun t436 => (if t436 = true then (if (t405.length : Int) > 5 then (some false) else (laws_FnTexts.l0 kj13 t387 t388 t389 t405 t417 (wrap64 (x8_1 + 1)))) else (some false)))) else (some false)) = some r := H
                        have A56 := Aside0.mk A560
                        clear A560
                        by_cases c57 : t434 = true
                        · subst c57
                          rw [if_pos rfl] at H
                          by_cases c58 : (!(t408.toList == t429.toList) || (!(t409 == t430) || (!(t410 == t431) || (!(t411.toList == t432.toList) || (!(t412 == t433)))))) = true
                          · rw [if_pos c58] at H
                            have c58b0 : (!(t408.toList == t429.toList) || (!(t409 == t430) || (!(t410 == t431) || (!(t411.toList == t432.toList) || (!(t412 == t433)))))) = true := c58
                            clear c58
                            obtain rfl := Option.some.inj H
                            have p428 : 0 ≤ (x8_1 : Int) := of_decide_eq_true (z_7)
                            have q428 : x8_1 < (t388.length : Int) := of_decide_eq_true (z_7)
                            obtain ⟨ad428, e428, hx428_0⟩ := Kd.at_string (Kd.R_reads' HO_4.out).2.2 x8_1 p428 q428
                            obtain rfl : ad403 = ad428 := (by injection e428)
                            replace p428 := eq_true p428
                            replace q428 := eq_true q428
                            go_wp2_with (first | ((with_reducible refine gate_callee (f := 31) rfl ?_); refine goesL_ (some 86) rfl rfl Try.func31 (z_0) rfl #[.slice Ao17 t387.length co17, .string (rdOf ByteArray.empty t388 x8_1)] rfl (z_14) ?_; (with_reducible refine (impl_NameAsk.calls kj13 _ _ t387 (rdOf ByteArray.empty t388 x8_1) t429 t430 t431 t432 t433 true _ ?side1 ?side2 A56.out).mono ?_); (case side1 => exact z_134); (case side2 => exact z_135); rintro e w59 ⟨rfl, hb⟩; refine ⟨_, rfl, ?_⟩; have n0_ := Aside0.mk (Kd.R_below (z_136) hb); have n1_ := Aside0.mk (Kd.R_below (z_137) hb); have n2_ := Aside0.mk (Kd.R_below (z_11) hb); have n3_ := Aside0.mk (Kd.R_below (z_168) hb); have n4_ := Aside0.mk (Kd.Q_below (z_169) hb); have n5_ := Aside0.mk (blk_below (g := gb414) (o := .cells #[.string t408, .int .i64 t409, .int .i64 t410, .string t411, .int .i64 t412] 26 (0, 0)) (z_145) hb); have n6_ := Aside0.mk (blk_below (g := gb426) (o := .cells #[.string t420, .int .i64 t421, .int .i64 t422, .string t423, .int .i64 t424] 26 (0, 0)) (z_157) hb); have n7_ := Aside0.mk (below_step (z_158) hb); clear HO_3; clear HO_4; clear HO_5; clear HO_9; clear HO_12; clear BK414; clear BK426; clear HB; have HO_3 := n0_; have HO_4 := n1_; have HO_5 := n2_; have HO_9 := n3_; have HO_12 := n4_; have BK414 := n5_; have BK426 := n6_; have HB := n7_; clear n0_ n1_ n2_ n3_ n4_ n5_ n6_ n7_; (try clear hb); (try clear hb2); (try clear hk); (try clear hi)) | ((with_reducible refine gate_dst (N := 15) rfl ?_); refine box_event ?hg (N := 15) ?hd (cs := #[.string (⟨#[]⟩ : ByteArray), .int .i64 0, .int .i64 0, .string (⟨#[]⟩ : ByteArray), .int .i64 0]) (t := 26) ?hr ?_; (case hd => rfl); (case hg => rfl); (case hr => exact z_9); intro gb435 hg w60 hbox hb; have n0_ := Aside0.mk (Kd.R_below (Kd.R_elderB (z_136) gb435 (Nat.le_of_eq hg.symm)) hb); have n1_ := Aside0.mk (Kd.R_below (z_137) hb); have n2_ := Aside0.mk (Kd.R_below (z_11) hb); have n3_ := Aside0.mk (Kd.R_below (z_168) hb); have n4_ := Aside0.mk (Kd.Q_below (z_169) hb); have n5_ := Aside0.mk (blk_below (g := gb414) (o := .cells #[.string t408, .int .i64 t409, .int .i64 t410, .string t411, .int .i64 t412] 26 (0, 0)) (z_145) hb); have n6_ := Aside0.mk (blk_below (g := gb426) (o := .cells #[.string t420, .int .i64 t421, .int .i64 t422, .string t423, .int .i64 t424] 26 (0, 0)) (z_157) hb); have n7_ := Aside0.mk (below_step (z_158) hb); have n8_ := Aside0.mk (hbox); have n9_ := Aside0.mk ((z_170 : w.heap.size ≤ gb435)); have n10_ := Aside0.mk ((z_170 : w.heap.size ≤ gb435)); have n11_ := Aside0.mk ((z_151 : gb414 ≠ gb435)); have n12_ := Aside0.mk ((z_152 : gb435 ≠ gb414)); have n13_ := Aside0.mk ((z_171 : gb426 ≠ gb435)); have n14_ := Aside0.mk ((z_172 : gb435 ≠ gb426)); clear HO_3; clear HO_4; clear HO_5; clear HO_9; clear HO_12; clear BK414; clear BK426; clear HB; have HO_3 := n0_; have HO_4 := n1_; have HO_5 := n2_; have HO_9 := n3_; have HO_12 := n4_; have BK414 := n5_; have BK426 := n6_; have HB := n7_; have BK435 := n8_; have GW435 := n9_; have GE435 := n10_; have NB414_435 := n11_; have NB435_414 := n12_; have NB426_435 := n13_; have NB435_426 := n14_; clear n0_ n1_ n2_ n3_ n4_ n5_ n6_ n7_ n8_ n9_ n10_ n11_ n12_ n13_ n14_; clear hb hbox hg; have hnb61 := NB435_414.out; have hnc61 := NB414_435.out; have hnb62 := NB435_426.out; have hnc62 := NB426_435.out; have hcz63_0 : w60.cell? ⟨gb435, 0, none⟩ = some (.string (⟨#[]⟩ : ByteArray)) := (blk_cell BK435.out 0).trans rfl; have hcz63_1 : w60.cell? ⟨gb435, 1, none⟩ = some (.int .i64 0) := (blk_cell BK435.out 1).trans rfl; have hcz63_2 : w60.cell? ⟨gb435, 2, none⟩ = some (.int .i64 0) := (blk_cell BK435.out 2).trans rfl; have hcz63_3 : w60.cell? ⟨gb435, 3, none⟩ = some (.string (⟨#[]⟩ : ByteArray)) := (blk_cell BK435.out 3).trans rfl; have hcz63_4 : w60.cell? ⟨gb435, 4, none⟩ = some (.int .i64 0) := (blk_cell BK435.out 4).trans rfl; have hfz63_0 := blk_frozen BK435.out 0; have hfz63_1 := blk_frozen BK435.out 1; have hfz63_2 := blk_frozen BK435.out 2; have hfz63_3 := blk_frozen BK435.out 3; have hfz63_4 := blk_frozen BK435.out 4; have hnb64 := NB414_426.out; have hnc64 := NB426_414.out; have hcz65_0 : w60.cell? ⟨gb414, 0, none⟩ = some (.string t408) := (blk_cell BK414.out 0).trans rfl; have hcz65_1 : w60.cell? ⟨gb414, 1, none⟩ = some (.int .i64 t409) := (blk_cell BK414.out 1).trans rfl; have hcz65_2 : w60.cell? ⟨gb414, 2, none⟩ = some (.int .i64 t410) := (blk_cell BK414.out 2).trans rfl; have hcz65_3 : w60.cell? ⟨gb414, 3, none⟩ = some (.string t411) := (blk_cell BK414.out 3).trans rfl; have hcz65_4 : w60.cell? ⟨gb414, 4, none⟩ = some (.int .i64 t412) := (blk_cell BK414.out 4).trans rfl; have hfz65_0 := blk_frozen BK414.out 0; have hfz65_1 := blk_frozen BK414.out 1; have hfz65_2 := blk_frozen BK414.out 2; have hfz65_3 := blk_frozen BK414.out 3; have hfz65_4 := blk_frozen BK414.out 4))
                            go_ret
                            exact ⟨z_13, z_173⟩
                          · rw [if_neg c58] at H
                            have c58b0 : (!(t408.toList == t429.toList) || (!(t409 == t430) || (!(t410 == t431) || (!(t411.toList == t432.toList) || (!(t412 == t433)))))) = false := by simpa using c58
                            clear c58
                            replace H := Option.bind_eq_some_iff.mp H
                            obtain ⟨t436, A660, H⟩ := H
                            have A66 := Aside0.mk A660
                            clear A660
                            by_cases c67 : t436 = true
                            · subst c67
                              rw [if_pos rfl] at H
                              by_cases c68 : (t405.length : Int) > 5
                              · rw [if_pos c68] at H
                                have c68b0 : decide (5 < (t405.length : Int)) = true := decide_eq_true c68
                                have c68b1 : decide (5 < t405.length) = true := decide_eq_true (z_6)
                                clear c68
                                obtain rfl := Option.some.inj H
                                have p428 : 0 ≤ (x8_1 : Int) := of_decide_eq_true (z_7)
                                have q428 : x8_1 < (t388.length : Int) := of_decide_eq_true (z_7)
                                obtain ⟨ad428, e428, hx428_0⟩ := Kd.at_string (Kd.R_reads' HO_4.out).2.2 x8_1 p428 q428
                                obtain rfl : ad403 = ad428 := (by injection e428)
                                replace p428 := eq_true p428
                                replace q428 := eq_true q428
                                go_wp2_with (first | ((with_reducible refine gate_callee (f := 31) rfl ?_); refine goesL_ (some 86) rfl rfl Try.func31 (z_0) rfl #[.slice Ao17 t387.length co17, .string (rdOf ByteArray.empty t388 x8_1)] rfl (z_14) ?_; (with_reducible refine (impl_NameAsk.calls kj13 _ _ t387 (rdOf ByteArray.empty t388 x8_1) t429 t430 t431 t432 t433 true _ ?side1 ?side2 A56.out).mono ?_); (case side1 => exact z_134); (case side2 => exact z_135); rintro e w69 ⟨rfl, hb⟩; refine ⟨_, rfl, ?_⟩; have n0_ := Aside0.mk (Kd.R_below (z_136) hb); have n1_ := Aside0.mk (Kd.R_below (z_137) hb); have n2_ := Aside0.mk (Kd.R_below (z_11) hb); have n3_ := Aside0.mk (Kd.R_below (z_168) hb); have n4_ := Aside0.mk (Kd.Q_below (z_169) hb); have n5_ := Aside0.mk (blk_below (g := gb414) (o := .cells #[.string t408, .int .i64 t409, .int .i64 t410, .string t411, .int .i64 t412] 26 (0, 0)) (z_145) hb); have n6_ := Aside0.mk (blk_below (g := gb426) (o := .cells #[.string t420, .int .i64 t421, .int .i64 t422, .string t423, .int .i64 t424] 26 (0, 0)) (z_157) hb); have n7_ := Aside0.mk (below_step (z_158) hb); clear HO_3; clear HO_4; clear HO_5; clear HO_9; clear HO_12; clear BK414; clear BK426; clear HB; have HO_3 := n0_; have HO_4 := n1_; have HO_5 := n2_; have HO_9 := n3_; have HO_12 := n4_; have BK414 := n5_; have BK426 := n6_; have HB := n7_; clear n0_ n1_ n2_ n3_ n4_ n5_ n6_ n7_; (try clear hb); (try clear hb2); (try clear hk); (try clear hi)) | ((with_reducible refine gate_dst (N := 15) rfl ?_); refine box_event ?hg (N := 15) ?hd (cs := #[.string (⟨#[]⟩ : ByteArray), .int .i64 0, .int .i64 0, .string (⟨#[]⟩ : ByteArray), .int .i64 0]) (t := 26) ?hr ?_; (case hd => rfl); (case hg => rfl); (case hr => exact z_9); intro gb435 hg w70 hbox hb; have n0_ := Aside0.mk (Kd.R_below (Kd.R_elderB (z_136) gb435 (Nat.le_of_eq hg.symm)) hb); have n1_ := Aside0.mk (Kd.R_below (z_137) hb); have n2_ := Aside0.mk (Kd.R_below (z_11) hb); have n3_ := Aside0.mk (Kd.R_below (z_168) hb); have n4_ := Aside0.mk (Kd.Q_below (z_169) hb); have n5_ := Aside0.mk (blk_below (g := gb414) (o := .cells #[.string t408, .int .i64 t409, .int .i64 t410, .string t411, .int .i64 t412] 26 (0, 0)) (z_145) hb); have n6_ := Aside0.mk (blk_below (g := gb426) (o := .cells #[.string t420, .int .i64 t421, .int .i64 t422, .string t423, .int .i64 t424] 26 (0, 0)) (z_157) hb); have n7_ := Aside0.mk (below_step (z_158) hb); have n8_ := Aside0.mk (hbox); have n9_ := Aside0.mk ((z_170 : w.heap.size ≤ gb435)); have n10_ := Aside0.mk ((z_170 : w.heap.size ≤ gb435)); have n11_ := Aside0.mk ((z_151 : gb414 ≠ gb435)); have n12_ := Aside0.mk ((z_152 : gb435 ≠ gb414)); have n13_ := Aside0.mk ((z_171 : gb426 ≠ gb435)); have n14_ := Aside0.mk ((z_172 : gb435 ≠ gb426)); clear HO_3; clear HO_4; clear HO_5; clear HO_9; clear HO_12; clear BK414; clear BK426; clear HB; have HO_3 := n0_; have HO_4 := n1_; have HO_5 := n2_; have HO_9 := n3_; have HO_12 := n4_; have BK414 := n5_; have BK426 := n6_; have HB := n7_; have BK435 := n8_; have GW435 := n9_; have GE435 := n10_; have NB414_435 := n11_; have NB435_414 := n12_; have NB426_435 := n13_; have NB435_426 := n14_; clear n0_ n1_ n2_ n3_ n4_ n5_ n6_ n7_ n8_ n9_ n10_ n11_ n12_ n13_ n14_; clear hb hbox hg; have hnb71 := NB435_414.out; have hnc71 := NB414_435.out; have hnb72 := NB435_426.out; have hnc72 := NB426_435.out; have hcz73_0 : w70.cell? ⟨gb435, 0, none⟩ = some (.string (⟨#[]⟩ : ByteArray)) := (blk_cell BK435.out 0).trans rfl; have hcz73_1 : w70.cell? ⟨gb435, 1, none⟩ = some (.int .i64 0) := (blk_cell BK435.out 1).trans rfl; have hcz73_2 : w70.cell? ⟨gb435, 2, none⟩ = some (.int .i64 0) := (blk_cell BK435.out 2).trans rfl; have hcz73_3 : w70.cell? ⟨gb435, 3, none⟩ = some (.string (⟨#[]⟩ : ByteArray)) := (blk_cell BK435.out 3).trans rfl; have hcz73_4 : w70.cell? ⟨gb435, 4, none⟩ = some (.int .i64 0) := (blk_cell BK435.out 4).trans rfl; have hfz73_0 := blk_frozen BK435.out 0; have hfz73_1 := blk_frozen BK435.out 1; have hfz73_2 := blk_frozen BK435.out 2; have hfz73_3 := blk_frozen BK435.out 3; have hfz73_4 := blk_frozen BK435.out 4; have hnb74 := NB414_426.out; have hnc74 := NB426_414.out; have hcz75_0 : w70.cell? ⟨gb414, 0, none⟩ = some (.string t408) := (blk_cell BK414.out 0).trans rfl; have hcz75_1 : w70.cell? ⟨gb414, 1, none⟩ = some (.int .i64 t409) := (blk_cell BK414.out 1).trans rfl; have hcz75_2 : w70.cell? ⟨gb414, 2, none⟩ = some (.int .i64 t410) := (blk_cell BK414.out 2).trans rfl; have hcz75_3 : w70.cell? ⟨gb414, 3, none⟩ = some (.string t411) := (blk_cell BK414.out 3).trans rfl; have hcz75_4 : w70.cell? ⟨gb414, 4, none⟩ = some (.int .i64 t412) := (blk_cell BK414.out 4).trans rfl; have hfz75_0 := blk_frozen BK414.out 0; have hfz75_1 := blk_frozen BK414.out 1; have hfz75_2 := blk_frozen BK414.out 2; have hfz75_3 := blk_frozen BK414.out 3; have hfz75_4 := blk_frozen BK414.out 4; obtain ⟨Ao76, co76, eo76⟩ := Kd.R_slice HO_9.out; subst eo76) | (go_at_call 36; (with_reducible refine (impl_KeptOk.calls kj13 _ _ t405 true _ ?side1 ?side2 A66.out).mono ?_); (case side1 => refine (Kd.R_reads' (e := 83) (base := w.heap.size) (ok := fun k_ => some k_ ≠ (v418 : Value).ownBlock) (n := t405.length) (c := co76) ?_).2.2; exact (z_174)); (case side2 => exact (Kd.R_reads' HO_9.out).2.1); rintro e w77 ⟨rfl, hb⟩; have n0_ := Aside0.mk (Kd.R_below (z_175) hb); have n1_ := Aside0.mk (Kd.R_below (z_176) hb); have n2_ := Aside0.mk (Kd.R_below (z_177) hb); have n3_ := Aside0.mk (Kd.R_below (z_174) hb); have n4_ := Aside0.mk (Kd.Q_below (z_178) hb); have n5_ := Aside0.mk (blk_below (g := gb414) (o := .cells #[.string t408, .int .i64 t409, .int .i64 t410, .string t411, .int .i64 t412] 26 (0, 0)) (z_179) hb); have n6_ := Aside0.mk (blk_below (g := gb426) (o := .cells #[.string t420, .int .i64 t421, .int .i64 t422, .string t423, .int .i64 t424] 26 (0, 0)) (z_180) hb); have n7_ := Aside0.mk (blk_below (g := gb435) (o := .cells #[.string t429, .int .i64 t430, .int .i64 t431, .string t432, .int .i64 t433] 26 (0, 0)) (z_181) hb); have n8_ := Aside0.mk (below_step (z_173) hb); clear HO_3; clear HO_4; clear HO_5; clear HO_9; clear HO_12; clear BK414; clear BK426; clear BK435; clear HB; have HO_3 := n0_; have HO_4 := n1_; have HO_5 := n2_; have HO_9 := n3_; have HO_12 := n4_; have BK414 := n5_; have BK426 := n6_; have BK435 := n7_; have HB := n8_; clear n0_ n1_ n2_ n3_ n4_ n5_ n6_ n7_ n8_; (try clear hb); (try clear hb2); (try clear hk); (try clear hi)))
                                go_ret
                                exact ⟨z_13, z_173⟩
                              · rw [if_neg c68] at H
                                have c68b0 : decide (5 < (t405.length : Int)) = false := decide_eq_false c68
                                have c68b1 : decide (5 < t405.length) = false := decide_eq_false (z_6)
                                clear c68
                                have H' := Aside0.mk H
                                clear H
                                have p428 : 0 ≤ (x8_1 : Int) := of_decide_eq_true (z_7)
                                have q428 : x8_1 < (t388.length : Int) := of_decide_eq_true (z_7)
                                obtain ⟨ad428, e428, hx428_0⟩ := Kd.at_string (Kd.R_reads' HO_4.out).2.2 x8_1 p428 q428
                                obtain rfl : ad403 = ad428 := (by injection e428)
                                replace p428 := eq_true p428
                                replace q428 := eq_true q428
                                go_wp2_with (first | ((with_reducible refine gate_callee (f := 31) rfl ?_); refine goesL_ (some 86) rfl rfl Try.func31 (z_0) rfl #[.slice Ao17 t387.length co17, .string (rdOf ByteArray.empty t388 x8_1)] rfl (z_14) ?_; (with_reducible refine (impl_NameAsk.calls kj13 _ _ t387 (rdOf ByteArray.empty t388 x8_1) t429 t430 t431 t432 t433 true _ ?side1 ?side2 A56.out).mono ?_); (case side1 => exact z_134); (case side2 => exact z_135); rintro e w78 ⟨rfl, hb⟩; refine ⟨_, rfl, ?_⟩; have n0_ := Aside0.mk (Kd.R_below (z_136) hb); have n1_ := Aside0.mk (Kd.R_below (z_137) hb); have n2_ := Aside0.mk (Kd.R_below (z_11) hb); have n3_ := Aside0.mk (Kd.R_below (z_168) hb); have n4_ := Aside0.mk (Kd.Q_below (z_169) hb); have n5_ := Aside0.mk (blk_below (g := gb414) (o := .cells #[.string t408, .int .i64 t409, .int .i64 t410, .string t411, .int .i64 t412] 26 (0, 0)) (z_145) hb); have n6_ := Aside0.mk (blk_below (g := gb426) (o := .cells #[.string t420, .int .i64 t421, .int .i64 t422, .string t423, .int .i64 t424] 26 (0, 0)) (z_157) hb); have n7_ := Aside0.mk (below_step (z_158) hb); clear HO_3; clear HO_4; clear HO_5; clear HO_9; clear HO_12; clear BK414; clear BK426; clear HB; have HO_3 := n0_; have HO_4 := n1_; have HO_5 := n2_; have HO_9 := n3_; have HO_12 := n4_; have BK414 := n5_; have BK426 := n6_; have HB := n7_; clear n0_ n1_ n2_ n3_ n4_ n5_ n6_ n7_; (try clear hb); (try clear hb2); (try clear hk); (try clear hi)) | ((with_reducible refine gate_dst (N := 15) rfl ?_); refine box_event ?hg (N := 15) ?hd (cs := #[.string (⟨#[]⟩ : ByteArray), .int .i64 0, .int .i64 0, .string (⟨#[]⟩ : ByteArray), .int .i64 0]) (t := 26) ?hr ?_; (case hd => rfl); (case hg => rfl); (case hr => exact z_9); intro gb435 hg w79 hbox hb; have n0_ := Aside0.mk (Kd.R_below (Kd.R_elderB (z_136) gb435 (Nat.le_of_eq hg.symm)) hb); have n1_ := Aside0.mk (Kd.R_below (z_137) hb); have n2_ := Aside0.mk (Kd.R_below (z_11) hb); have n3_ := Aside0.mk (Kd.R_below (z_168) hb); have n4_ := Aside0.mk (Kd.Q_below (z_169) hb); have n5_ := Aside0.mk (blk_below (g := gb414) (o := .cells #[.string t408, .int .i64 t409, .int .i64 t410, .string t411, .int .i64 t412] 26 (0, 0)) (z_145) hb); have n6_ := Aside0.mk (blk_below (g := gb426) (o := .cells #[.string t420, .int .i64 t421, .int .i64 t422, .string t423, .int .i64 t424] 26 (0, 0)) (z_157) hb); have n7_ := Aside0.mk (below_step (z_158) hb); have n8_ := Aside0.mk (hbox); have n9_ := Aside0.mk ((z_170 : w.heap.size ≤ gb435)); have n10_ := Aside0.mk ((z_170 : w.heap.size ≤ gb435)); have n11_ := Aside0.mk ((z_151 : gb414 ≠ gb435)); have n12_ := Aside0.mk ((z_152 : gb435 ≠ gb414)); have n13_ := Aside0.mk ((z_171 : gb426 ≠ gb435)); have n14_ := Aside0.mk ((z_172 : gb435 ≠ gb426)); clear HO_3; clear HO_4; clear HO_5; clear HO_9; clear HO_12; clear BK414; clear BK426; clear HB; have HO_3 := n0_; have HO_4 := n1_; have HO_5 := n2_; have HO_9 := n3_; have HO_12 := n4_; have BK414 := n5_; have BK426 := n6_; have HB := n7_; have BK435 := n8_; have GW435 := n9_; have GE435 := n10_; have NB414_435 := n11_; have NB435_414 := n12_; have NB426_435 := n13_; have NB435_426 := n14_; clear n0_ n1_ n2_ n3_ n4_ n5_ n6_ n7_ n8_ n9_ n10_ n11_ n12_ n13_ n14_; clear hb hbox hg; have hnb80 := NB435_414.out; have hnc80 := NB414_435.out; have hnb81 := NB435_426.out; have hnc81 := NB426_435.out; have hcz82_0 : w79.cell? ⟨gb435, 0, none⟩ = some (.string (⟨#[]⟩ : ByteArray)) := (blk_cell BK435.out 0).trans rfl; have hcz82_1 : w79.cell? ⟨gb435, 1, none⟩ = some (.int .i64 0) := (blk_cell BK435.out 1).trans rfl; have hcz82_2 : w79.cell? ⟨gb435, 2, none⟩ = some (.int .i64 0) := (blk_cell BK435.out 2).trans rfl; have hcz82_3 : w79.cell? ⟨gb435, 3, none⟩ = some (.string (⟨#[]⟩ : ByteArray)) := (blk_cell BK435.out 3).trans rfl; have hcz82_4 : w79.cell? ⟨gb435, 4, none⟩ = some (.int .i64 0) := (blk_cell BK435.out 4).trans rfl; have hfz82_0 := blk_frozen BK435.out 0; have hfz82_1 := blk_frozen BK435.out 1; have hfz82_2 := blk_frozen BK435.out 2; have hfz82_3 := blk_frozen BK435.out 3; have hfz82_4 := blk_frozen BK435.out 4; have hnb83 := NB414_426.out; have hnc83 := NB426_414.out; have hcz84_0 : w79.cell? ⟨gb414, 0, none⟩ = some (.string t408) := (blk_cell BK414.out 0).trans rfl; have hcz84_1 : w79.cell? ⟨gb414, 1, none⟩ = some (.int .i64 t409) := (blk_cell BK414.out 1).trans rfl; have hcz84_2 : w79.cell? ⟨gb414, 2, none⟩ = some (.int .i64 t410) := (blk_cell BK414.out 2).trans rfl; have hcz84_3 : w79.cell? ⟨gb414, 3, none⟩ = some (.string t411) := (blk_cell BK414.out 3).trans rfl; have hcz84_4 : w79.cell? ⟨gb414, 4, none⟩ = some (.int .i64 t412) := (blk_cell BK414.out 4).trans rfl; have hfz84_0 := blk_frozen BK414.out 0; have hfz84_1 := blk_frozen BK414.out 1; have hfz84_2 := blk_frozen BK414.out 2; have hfz84_3 := blk_frozen BK414.out 3; have hfz84_4 := blk_frozen BK414.out 4; obtain ⟨Ao85, co85, eo85⟩ := Kd.R_slice HO_9.out; subst eo85) | (go_at_call 36; (with_reducible refine (impl_KeptOk.calls kj13 _ _ t405 true _ ?side1 ?side2 A66.out).mono ?_); (case side1 => refine (Kd.R_reads' (e := 83) (base := w.heap.size) (ok := fun k_ => some k_ ≠ (v418 : Value).ownBlock) (n := t405.length) (c := co85) ?_).2.2; exact (z_174)); (case side2 => exact (Kd.R_reads' HO_9.out).2.1); rintro e w86 ⟨rfl, hb⟩; have n0_ := Aside0.mk (Kd.R_below (z_175) hb); have n1_ := Aside0.mk (Kd.R_below (z_176) hb); have n2_ := Aside0.mk (Kd.R_below (z_177) hb); have n3_ := Aside0.mk (Kd.R_below (z_174) hb); have n4_ := Aside0.mk (Kd.Q_below (z_178) hb); have n5_ := Aside0.mk (blk_below (g := gb414) (o := .cells #[.string t408, .int .i64 t409, .int .i64 t410, .string t411, .int .i64 t412] 26 (0, 0)) (z_179) hb); have n6_ := Aside0.mk (blk_below (g := gb426) (o := .cells #[.string t420, .int .i64 t421, .int .i64 t422, .string t423, .int .i64 t424] 26 (0, 0)) (z_180) hb); have n7_ := Aside0.mk (blk_below (g := gb435) (o := .cells #[.string t429, .int .i64 t430, .int .i64 t431, .string t432, .int .i64 t433] 26 (0, 0)) (z_181) hb); have n8_ := Aside0.mk (below_step (z_173) hb); clear HO_3; clear HO_4; clear HO_5; clear HO_9; clear HO_12; clear BK414; clear BK426; clear BK435; clear HB; have HO_3 := n0_; have HO_4 := n1_; have HO_5 := n2_; have HO_9 := n3_; have HO_12 := n4_; have BK414 := n5_; have BK426 := n6_; have BK435 := n7_; have HB := n8_; clear n0_ n1_ n2_ n3_ n4_ n5_ n6_ n7_ n8_; (try clear hb); (try clear hb2); (try clear hk); (try clear hi)))
                                go_roundg kj13
                                case measure => have := HK1.out; have := HJ13.out; omega
                                case rel => exact ⟨(t405), (t417), (wrap64 (x8_1 + 1)), (z_3), H', ⟨by have := HK1.out; have := HJ13.out; omega⟩, ⟨by (with_reducible repeat (first | apply Kd.R_alloc | apply Kd.R_drewN | apply Kd.R_drew)); exact Kd.R_mono HO_3.out (fun _ hk => trivial)⟩, ⟨z_137⟩, ⟨z_11⟩, ⟨z_168⟩, ⟨z_169⟩, ⟨z_173⟩⟩
                            · replace c67 := Bool.eq_false_iff.mpr c67
                              subst c67
                              rw [if_neg (show ¬ (false = true) by decide)] at H
                              obtain rfl := Option.some.inj H
                              have p428 : 0 ≤ (x8_1 : Int) := of_decide_eq_true (z_7)
                              have q428 : x8_1 < (t388.length : Int) := of_decide_eq_true (z_7)
                              obtain ⟨ad428, e428, hx428_0⟩ := Kd.at_string (Kd.R_reads' HO_4.out).2.2 x8_1 p428 q428
                              obtain rfl : ad403 = ad428 := (by injection e428)
                              replace p428 := eq_true p428
                              replace q428 := eq_true q428
                              go_wp2_with (first | ((with_reducible refine gate_callee (f := 31) rfl ?_); refine goesL_ (some 86) rfl rfl Try.func31 (z_0) rfl #[.slice Ao17 t387.length co17, .string (rdOf ByteArray.empty t388 x8_1)] rfl (z_14) ?_; (with_reducible refine (impl_NameAsk.calls kj13 _ _ t387 (rdOf ByteArray.empty t388 x8_1) t429 t430 t431 t432 t433 true _ ?side1 ?side2 A56.out).mono ?_); (case side1 => exact z_134); (case side2 => exact z_135); rintro e w87 ⟨rfl, hb⟩; refine ⟨_, rfl, ?_⟩; have n0_ := Aside0.mk (Kd.R_below (z_136) hb); have n1_ := Aside0.mk (Kd.R_below (z_137) hb); have n2_ := Aside0.mk (Kd.R_below (z_11) hb); have n3_ := Aside0.mk (Kd.R_below (z_168) hb); have n4_ := Aside0.mk (Kd.Q_below (z_169) hb); have n5_ := Aside0.mk (blk_below (g := gb414) (o := .cells #[.string t408, .int .i64 t409, .int .i64 t410, .string t411, .int .i64 t412] 26 (0, 0)) (z_145) hb); have n6_ := Aside0.mk (blk_below (g := gb426) (o := .cells #[.string t420, .int .i64 t421, .int .i64 t422, .string t423, .int .i64 t424] 26 (0, 0)) (z_157) hb); have n7_ := Aside0.mk (below_step (z_158) hb); clear HO_3; clear HO_4; clear HO_5; clear HO_9; clear HO_12; clear BK414; clear BK426; clear HB; have HO_3 := n0_; have HO_4 := n1_; have HO_5 := n2_; have HO_9 := n3_; have HO_12 := n4_; have BK414 := n5_; have BK426 := n6_; have HB := n7_; clear n0_ n1_ n2_ n3_ n4_ n5_ n6_ n7_; (try clear hb); (try clear hb2); (try clear hk); (try clear hi)) | ((with_reducible refine gate_dst (N := 15) rfl ?_); refine box_event ?hg (N := 15) ?hd (cs := #[.string (⟨#[]⟩ : ByteArray), .int .i64 0, .int .i64 0, .string (⟨#[]⟩ : ByteArray), .int .i64 0]) (t := 26) ?hr ?_; (case hd => rfl); (case hg => rfl); (case hr => exact z_9); intro gb435 hg w88 hbox hb; have n0_ := Aside0.mk (Kd.R_below (Kd.R_elderB (z_136) gb435 (Nat.le_of_eq hg.symm)) hb); have n1_ := Aside0.mk (Kd.R_below (z_137) hb); have n2_ := Aside0.mk (Kd.R_below (z_11) hb); have n3_ := Aside0.mk (Kd.R_below (z_168) hb); have n4_ := Aside0.mk (Kd.Q_below (z_169) hb); have n5_ := Aside0.mk (blk_below (g := gb414) (o := .cells #[.string t408, .int .i64 t409, .int .i64 t410, .string t411, .int .i64 t412] 26 (0, 0)) (z_145) hb); have n6_ := Aside0.mk (blk_below (g := gb426) (o := .cells #[.string t420, .int .i64 t421, .int .i64 t422, .string t423, .int .i64 t424] 26 (0, 0)) (z_157) hb); have n7_ := Aside0.mk (below_step (z_158) hb); have n8_ := Aside0.mk (hbox); have n9_ := Aside0.mk ((z_170 : w.heap.size ≤ gb435)); have n10_ := Aside0.mk ((z_170 : w.heap.size ≤ gb435)); have n11_ := Aside0.mk ((z_151 : gb414 ≠ gb435)); have n12_ := Aside0.mk ((z_152 : gb435 ≠ gb414)); have n13_ := Aside0.mk ((z_171 : gb426 ≠ gb435)); have n14_ := Aside0.mk ((z_172 : gb435 ≠ gb426)); clear HO_3; clear HO_4; clear HO_5; clear HO_9; clear HO_12; clear BK414; clear BK426; clear HB; have HO_3 := n0_; have HO_4 := n1_; have HO_5 := n2_; have HO_9 := n3_; have HO_12 := n4_; have BK414 := n5_; have BK426 := n6_; have HB := n7_; have BK435 := n8_; have GW435 := n9_; have GE435 := n10_; have NB414_435 := n11_; have NB435_414 := n12_; have NB426_435 := n13_; have NB435_426 := n14_; clear n0_ n1_ n2_ n3_ n4_ n5_ n6_ n7_ n8_ n9_ n10_ n11_ n12_ n13_ n14_; clear hb hbox hg; have hnb89 := NB435_414.out; have hnc89 := NB414_435.out; have hnb90 := NB435_426.out; have hnc90 := NB426_435.out; have hcz91_0 : w88.cell? ⟨gb435, 0, none⟩ = some (.string (⟨#[]⟩ : ByteArray)) := (blk_cell BK435.out 0).trans rfl; have hcz91_1 : w88.cell? ⟨gb435, 1, none⟩ = some (.int .i64 0) := (blk_cell BK435.out 1).trans rfl; have hcz91_2 : w88.cell? ⟨gb435, 2, none⟩ = some (.int .i64 0) := (blk_cell BK435.out 2).trans rfl; have hcz91_3 : w88.cell? ⟨gb435, 3, none⟩ = some (.string (⟨#[]⟩ : ByteArray)) := (blk_cell BK435.out 3).trans rfl; have hcz91_4 : w88.cell? ⟨gb435, 4, none⟩ = some (.int .i64 0) := (blk_cell BK435.out 4).trans rfl; have hfz91_0 := blk_frozen BK435.out 0; have hfz91_1 := blk_frozen BK435.out 1; have hfz91_2 := blk_frozen BK435.out 2; have hfz91_3 := blk_frozen BK435.out 3; have hfz91_4 := blk_frozen BK435.out 4; have hnb92 := NB414_426.out; have hnc92 := NB426_414.out; have hcz93_0 : w88.cell? ⟨gb414, 0, none⟩ = some (.string t408) := (blk_cell BK414.out 0).trans rfl; have hcz93_1 : w88.cell? ⟨gb414, 1, none⟩ = some (.int .i64 t409) := (blk_cell BK414.out 1).trans rfl; have hcz93_2 : w88.cell? ⟨gb414, 2, none⟩ = some (.int .i64 t410) := (blk_cell BK414.out 2).trans rfl; have hcz93_3 : w88.cell? ⟨gb414, 3, none⟩ = some (.string t411) := (blk_cell BK414.out 3).trans rfl; have hcz93_4 : w88.cell? ⟨gb414, 4, none⟩ = some (.int .i64 t412) := (blk_cell BK414.out 4).trans rfl; have hfz93_0 := blk_frozen BK414.out 0; have hfz93_1 := blk_frozen BK414.out 1; have hfz93_2 := blk_frozen BK414.out 2; have hfz93_3 := blk_frozen BK414.out 3; have hfz93_4 := blk_frozen BK414.out 4; obtain ⟨Ao94, co94, eo94⟩ := Kd.R_slice HO_9.out; subst eo94) | (go_at_call 36; (with_reducible refine (impl_KeptOk.calls kj13 _ _ t405 false _ ?side1 ?side2 A66.out).mono ?_); (case side1 => refine (Kd.R_reads' (e := 83) (base := w.heap.size) (ok := fun k_ => some k_ ≠ (v418 : Value).ownBlock) (n := t405.length) (c := co94) ?_).2.2; exact (z_174)); (case side2 => exact (Kd.R_reads' HO_9.out).2.1); rintro e w95 ⟨rfl, hb⟩; have n0_ := Aside0.mk (Kd.R_below (z_175) hb); have n1_ := Aside0.mk (Kd.R_below (z_176) hb); have n2_ := Aside0.mk (Kd.R_below (z_177) hb); have n3_ := Aside0.mk (Kd.R_below (z_174) hb); have n4_ := Aside0.mk (Kd.Q_below (z_178) hb); have n5_ := Aside0.mk (blk_below (g := gb414) (o := .cells #[.string t408, .int .i64 t409, .int .i64 t410, .string t411, .int .i64 t412] 26 (0, 0)) (z_179) hb); have n6_ := Aside0.mk (blk_below (g := gb426) (o := .cells #[.string t420, .int .i64 t421, .int .i64 t422, .string t423, .int .i64 t424] 26 (0, 0)) (z_180) hb); have n7_ := Aside0.mk (blk_below (g := gb435) (o := .cells #[.string t429, .int .i64 t430, .int .i64 t431, .string t432, .int .i64 t433] 26 (0, 0)) (z_181) hb); have n8_ := Aside0.mk (below_step (z_173) hb); clear HO_3; clear HO_4; clear HO_5; clear HO_9; clear HO_12; clear BK414; clear BK426; clear BK435; clear HB; have HO_3 := n0_; have HO_4 := n1_; have HO_5 := n2_; have HO_9 := n3_; have HO_12 := n4_; have BK414 := n5_; have BK426 := n6_; have BK435 := n7_; have HB := n8_; clear n0_ n1_ n2_ n3_ n4_ n5_ n6_ n7_ n8_; (try clear hb); (try clear hb2); (try clear hk); (try clear hi)))
                              go_ret
                              exact ⟨z_13, z_173⟩
                        · replace c57 := Bool.eq_false_iff.mpr c57
                          subst c57
                          rw [if_neg (show ¬ (false = true) by decide)] at H
                          obtain rfl := Option.some.inj H
                          have p428 : 0 ≤ (x8_1 : Int) := of_decide_eq_true (z_7)
                          have q428 : x8_1 < (t388.length : Int) := of_decide_eq_true (z_7)
                          obtain ⟨ad428, e428, hx428_0⟩ := Kd.at_string (Kd.R_reads' HO_4.out).2.2 x8_1 p428 q428
                          obtain rfl : ad403 = ad428 := (by injection e428)
                          replace p428 := eq_true p428
                          replace q428 := eq_true q428
                          go_wp2_with (first | ((with_reducible refine gate_callee (f := 31) rfl ?_); refine goesL_ (some 86) rfl rfl Try.func31 (z_0) rfl #[.slice Ao17 t387.length co17, .string (rdOf ByteArray.empty t388 x8_1)] rfl (z_14) ?_; (with_reducible refine (impl_NameAsk.calls kj13 _ _ t387 (rdOf ByteArray.empty t388 x8_1) t429 t430 t431 t432 t433 false _ ?side1 ?side2 A56.out).mono ?_); (case side1 => exact z_134); (case side2 => exact z_135); rintro e w96 ⟨rfl, hb⟩; refine ⟨_, rfl, ?_⟩; have n0_ := Aside0.mk (Kd.R_below (z_136) hb); have n1_ := Aside0.mk (Kd.R_below (z_137) hb); have n2_ := Aside0.mk (Kd.R_below (z_11) hb); have n3_ := Aside0.mk (Kd.R_below (z_168) hb); have n4_ := Aside0.mk (Kd.Q_below (z_169) hb); have n5_ := Aside0.mk (blk_below (g := gb414) (o := .cells #[.string t408, .int .i64 t409, .int .i64 t410, .string t411, .int .i64 t412] 26 (0, 0)) (z_145) hb); have n6_ := Aside0.mk (blk_below (g := gb426) (o := .cells #[.string t420, .int .i64 t421, .int .i64 t422, .string t423, .int .i64 t424] 26 (0, 0)) (z_157) hb); have n7_ := Aside0.mk (below_step (z_158) hb); clear HO_3; clear HO_4; clear HO_5; clear HO_9; clear HO_12; clear BK414; clear BK426; clear HB; have HO_3 := n0_; have HO_4 := n1_; have HO_5 := n2_; have HO_9 := n3_; have HO_12 := n4_; have BK414 := n5_; have BK426 := n6_; have HB := n7_; clear n0_ n1_ n2_ n3_ n4_ n5_ n6_ n7_; (try clear hb); (try clear hb2); (try clear hk); (try clear hi)) | ((with_reducible refine gate_dst (N := 15) rfl ?_); refine box_event ?hg (N := 15) ?hd (cs := #[.string (⟨#[]⟩ : ByteArray), .int .i64 0, .int .i64 0, .string (⟨#[]⟩ : ByteArray), .int .i64 0]) (t := 26) ?hr ?_; (case hd => rfl); (case hg => rfl); (case hr => exact z_9); intro gb435 hg w97 hbox hb; have n0_ := Aside0.mk (Kd.R_below (Kd.R_elderB (z_136) gb435 (Nat.le_of_eq hg.symm)) hb); have n1_ := Aside0.mk (Kd.R_below (z_137) hb); have n2_ := Aside0.mk (Kd.R_below (z_11) hb); have n3_ := Aside0.mk (Kd.R_below (z_168) hb); have n4_ := Aside0.mk (Kd.Q_below (z_169) hb); have n5_ := Aside0.mk (blk_below (g := gb414) (o := .cells #[.string t408, .int .i64 t409, .int .i64 t410, .string t411, .int .i64 t412] 26 (0, 0)) (z_145) hb); have n6_ := Aside0.mk (blk_below (g := gb426) (o := .cells #[.string t420, .int .i64 t421, .int .i64 t422, .string t423, .int .i64 t424] 26 (0, 0)) (z_157) hb); have n7_ := Aside0.mk (below_step (z_158) hb); have n8_ := Aside0.mk (hbox); have n9_ := Aside0.mk ((z_170 : w.heap.size ≤ gb435)); have n10_ := Aside0.mk ((z_170 : w.heap.size ≤ gb435)); have n11_ := Aside0.mk ((z_151 : gb414 ≠ gb435)); have n12_ := Aside0.mk ((z_152 : gb435 ≠ gb414)); have n13_ := Aside0.mk ((z_171 : gb426 ≠ gb435)); have n14_ := Aside0.mk ((z_172 : gb435 ≠ gb426)); clear HO_3; clear HO_4; clear HO_5; clear HO_9; clear HO_12; clear BK414; clear BK426; clear HB; have HO_3 := n0_; have HO_4 := n1_; have HO_5 := n2_; have HO_9 := n3_; have HO_12 := n4_; have BK414 := n5_; have BK426 := n6_; have HB := n7_; have BK435 := n8_; have GW435 := n9_; have GE435 := n10_; have NB414_435 := n11_; have NB435_414 := n12_; have NB426_435 := n13_; have NB435_426 := n14_; clear n0_ n1_ n2_ n3_ n4_ n5_ n6_ n7_ n8_ n9_ n10_ n11_ n12_ n13_ n14_; clear hb hbox hg; have hnb98 := NB435_414.out; have hnc98 := NB414_435.out; have hnb99 := NB435_426.out; have hnc99 := NB426_435.out; have hcz100_0 : w97.cell? ⟨gb435, 0, none⟩ = some (.string (⟨#[]⟩ : ByteArray)) := (blk_cell BK435.out 0).trans rfl; have hcz100_1 : w97.cell? ⟨gb435, 1, none⟩ = some (.int .i64 0) := (blk_cell BK435.out 1).trans rfl; have hcz100_2 : w97.cell? ⟨gb435, 2, none⟩ = some (.int .i64 0) := (blk_cell BK435.out 2).trans rfl; have hcz100_3 : w97.cell? ⟨gb435, 3, none⟩ = some (.string (⟨#[]⟩ : ByteArray)) := (blk_cell BK435.out 3).trans rfl; have hcz100_4 : w97.cell? ⟨gb435, 4, none⟩ = some (.int .i64 0) := (blk_cell BK435.out 4).trans rfl; have hfz100_0 := blk_frozen BK435.out 0; have hfz100_1 := blk_frozen BK435.out 1; have hfz100_2 := blk_frozen BK435.out 2; have hfz100_3 := blk_frozen BK435.out 3; have hfz100_4 := blk_frozen BK435.out 4))
                          go_ret
                          exact ⟨z_13, z_173⟩
                      · rw [if_neg c55] at H
                        exact absurd H (z_12)
                    · rw [if_neg c54] at H
                      exact absurd H (z_12)
            · rw [if_neg c11] at H
              exact absurd H (z_12)
          · rw [if_neg c10] at H
            exact absurd H (z_12)
        · rw [if_neg c9] at H
          have c9b0 : decide (x8_1 < (t388.length : Int)) = false := decide_eq_false c9
          clear c9
          replace H := Option.bind_eq_some_iff.mp H
          obtain ⟨t402, A1010, H⟩ := H
          have A101 := Aside0.mk A1010
          clear A1010
          obtain rfl := Option.some.inj H
          obtain ⟨Ao102, co102, eo102⟩ := Kd.R_slice HO_4.out
          subst eo102
          go_wp2_with (first | ((with_reducible refine gate_callee (f := 23) rfl ?_); refine goesL_ (some 106) rfl rfl Try.func23 (z_0) rfl #[] rfl (z_14) ?_; (with_reducible refine (laws_alive.calls k1  t402 _ A101.out).mono ?_); rintro e w103 ⟨rfl, hb⟩; refine ⟨_, rfl, ?_⟩; have n0_ := Aside0.mk (Kd.R_below (z_136) hb); have n1_ := Aside0.mk (Kd.R_below (z_137) hb); have n2_ := Aside0.mk (Kd.R_below (z_11) hb); have n3_ := Aside0.mk (Kd.R_below (z_59) hb); have n4_ := Aside0.mk (Kd.Q_below (z_138) hb); have n5_ := Aside0.mk (below_step (z_8) hb); clear HO_3; clear HO_4; clear HO_5; clear HO_6; clear HO_7; clear HB; have HO_3 := n0_; have HO_4 := n1_; have HO_5 := n2_; have HO_6 := n3_; have HO_7 := n4_; have HB := n5_; clear n0_ n1_ n2_ n3_ n4_ n5_; (try clear hb); (try clear hb2); (try clear hk); (try clear hi)))
          go_ret
          exact ⟨z_13, z_8⟩

/-- THE ONE PURE STATEMENT of laws_FnTexts: yours. -/
def laws_FnTexts.Pure : Prop := ∀ (l0 : List Int), l0.length ≤ maxLen → l0.length * 1 ≤ 140737488351232 → (∀ x ∈ l0, (Lit.int .u8 x).wf = true) → ∃ k, laws_FnTexts.f k l0 = some true
theorem laws_FnTexts.walk (P : laws_FnTexts.Pure) (a0 : Option Addr) (len0 cap0 : Nat) (z0 : List Int) (w : World) (w0 : (a0 = none ∧ len0 = 0 ∧ cap0 = 0 ∧ z0 = []) ∨ ∃ x, a0 = some x ∧ len0 ≤ cap0 ∧ cap0 ≤ maxLen ∧ z0.length = cap0 ∧ (∀ i, i < z0.length → w.cell? (x.add i) = some (.int .u8 (z0.getD i 0))) ∧ ∀ n ∈ z0, (Lit.int .u8 n).wf = true) (y0 : len0 * 1 ≤ 140737488351232) :
    Calls Try.prog 13 #[.slice a0 len0 cap0] w fun e w' => e = .returned (.bool true) ∧ Below w.heap.size w w' := by
  obtain ⟨l0, rfl, hr0, hm0, hw0, hc0⟩ := ReadsInt.ofRowC w0
  obtain ⟨k, h⟩ := P l0 hm0 y0 hw0
  refine (laws_FnTexts.calls k _ _ l0 true w (Kd.C_of_reads (d := (0 : Int)) (h1 := fun _ => rfl) hr0) hc0 h).mono ?_
  rintro e w' ⟨rfl, hd⟩
  exact ⟨rfl, hd⟩

end Go.Proofs.Ytmgnmgobibpjjaa.GFnTexts
