/- What the Go functions that FnNameFind reaches come to, walked step by step; there is no condition beyond those each statement names. -/
import Derived.Test.YtmgnmgobibpjjaaGFnNameFindx0
import Derived.Test.YtmgnmgobibpjjaaGFnNameFindx5
namespace Go.Proofs.Ytmgnmgobibpjjaa.GFnNameFind
open Go.RowKit Go.Proofs.YtmgnmgobibpjjaaU.PrintWords Go.Proofs.YtmgnmgobibpjjaaU.PrintLast Go.Proofs.YtmgnmgobibpjjaaU.PrintMore
attribute [local go_sem] max2_int min2_int max_two min_two max_three min_three max_four min_four   -- for this text's walks alone
set_option linter.unusedVariables false
set_option linter.unusedSimpArgs false

/-! ### spec_l20Rd_pick: function 69 -/
def spec_l20Rd_pick.j0 : Nat → Int → Bool → List Int → Int → Option (Int × Int)
  | 0, _, _, _, _ => none
  | k + 1, x1, x24, x1000, x1001 => if x24 = true then (some (0, x1001)) else (if (wrap64 (x1001 - 1)) < (x1000.length : Int) then (if 0 ≤ (wrap64 (x1001 - 1)) then (if x1 = 0 then (none) else (some (Int.tmod (wrap64 (rd x1000 (wrap64 (x1001 - 1)))) x1, x1001))) else (none)) else (if (x1000.length : Int) = 0 then (none) else (if 0 ≤ (Int.tmod (wrap64 (x1001 - 1)) (x1000.length : Int)) then (if (Int.tmod (wrap64 (x1001 - 1)) (x1000.length : Int)) < (x1000.length : Int) then (if 0 ≤ (Int.tmod (wrap64 ((wrap64 ((wrap64 (x1001 - 1)) * 7)) + 3)) (x1000.length : Int)) then (if (Int.tmod (wrap64 ((wrap64 ((wrap64 (x1001 - 1)) * 7)) + 3)) (x1000.length : Int)) < (x1000.length : Int) then (if x1 = 0 then (none) else (some (Int.tmod (Go.bits .xor .i64 (wrap64 ((wrap64 ((wrap64 ((wrap64 ((wrap64 (rd x1000 (Int.tmod (wrap64 (x1001 - 1)) (x1000.length : Int)))) * 131)) + (wrap64 ((wrap64 (rd x1000 (Int.tmod (wrap64 ((wrap64 ((wrap64 (x1001 - 1)) * 7)) + 3)) (x1000.length : Int)))) * 1117)))) + (wrap64 ((wrap64 (x1001 - 1)) * 29)))) + (wrap64 ((wrap64 (Int.tdiv (wrap64 (x1001 - 1)) (x1000.length : Int))) * 53)))) (wrap64 (Int.tdiv (wrap64 ((wrap64 ((wrap64 ((wrap64 ((wrap64 (rd x1000 (Int.tmod (wrap64 (x1001 - 1)) (x1000.length : Int)))) * 131)) + (wrap64 ((wrap64 (rd x1000 (Int.tmod (wrap64 ((wrap64 ((wrap64 (x1001 - 1)) * 7)) + 3)) (x1000.length : Int)))) * 1117)))) + (wrap64 ((wrap64 (x1001 - 1)) * 29)))) + (wrap64 ((wrap64 (Int.tdiv (wrap64 (x1001 - 1)) (x1000.length : Int))) * 53)))) 64))) x1, x1001))) else (none)) else (none)) else (none)) else (none))))
def spec_l20Rd_pick.f (k : Nat) (s0_0 : List Int) (s0_1 : Int) (a1 : Int) : Option (Int × Int) := if a1 < 1 then (spec_l20Rd_pick.j0 k a1 true s0_0 (wrap64 (s0_1 + 1))) else (spec_l20Rd_pick.j0 k a1 ((s0_0.length : Int) == 0) s0_0 (wrap64 (s0_1 + 1)))
theorem spec_l20Rd_pick.mono_l : ∀ k, (∀ y0 y1 y2 y3, LeO (spec_l20Rd_pick.j0 k y0 y1 y2 y3) (spec_l20Rd_pick.j0 (k + 1) y0 y1 y2 y3))
  | 0 => fun _ _ _ _ r h => by simp [spec_l20Rd_pick.j0] at h
  | k + 1 => by
    have ih0 := spec_l20Rd_pick.mono_l k
    · intro y0 y1 y2 y3
      unfold spec_l20Rd_pick.j0
      repeat' first
      | (with_reducible exact ih0 _ _ _ _)
      | (with_reducible exact LeO.refl _)
      | (with_reducible exact LeO.none _)
      | (with_reducible refine LeO.ite ?_ ?_)
      | (with_reducible refine LeO.bind ?_ (fun _ => ?_))
      | exact ih0 _ _ _ _
      | exact LeO.none _
      | refine LeO.ite ?_ ?_
      | refine LeO.bind ?_ (fun _ => ?_)
theorem spec_l20Rd_pick.mono : ∀ a0 a1 a2 k, LeO (spec_l20Rd_pick.f k a0 a1 a2) (spec_l20Rd_pick.f (k + 1) a0 a1 a2) := by
  intro a0 a1 a2 k
  have ih0 := spec_l20Rd_pick.mono_l k
  unfold spec_l20Rd_pick.f
  repeat' first
      | (with_reducible exact ih0 _ _ _ _)
      | (with_reducible exact LeO.refl _)
      | (with_reducible exact LeO.none _)
      | (with_reducible refine LeO.ite ?_ ?_)
      | (with_reducible refine LeO.bind ?_ (fun _ => ?_))
      | exact ih0 _ _ _ _
      | exact LeO.none _
      | refine LeO.ite ?_ ?_
      | refine LeO.bind ?_ (fun _ => ?_)
set_option maxHeartbeats 8000000 in
set_option maxRecDepth 100000 in
theorem spec_l20Rd_pick.calls (k : Nat) (g : Nat) (s0_0 : List Int) (s0_1 : Int) (a1 : Int) (r1 : Int) (r2 : Int) (w0 w : World) (hI : IsS96 w0 w g s0_0 s0_1) (hB : Below w0.heap.size w0 w) (h : spec_l20Rd_pick.f k s0_0 s0_1 a1 = some (r1, r2)) :
    Calls Try.prog 69 #[.pointer (some ⟨g, 0, none⟩), .int .i64 a1] w fun e w' => e = .returned (.int .i64 r1) ∧ IsS96 w0 w' g s0_0 r2 ∧ Below w0.heap.size w0 w' ∧ KeepBut w w' g none := by
  have HI0 := Aside0.mk hI
  have HK := Aside0.mk (KeepBut.refl w g none)
  have HL := Aside0.mk hB.size
  clear hI
  have HW0 := Aside0.mk hB.size
  have HB := Aside0.mk hB
  clear hB
  have H : (if a1 < 1 then (spec_l20Rd_pick.j0 k a1 true s0_0 (wrap64 (s0_1 + 1))) else (spec_l20Rd_pick.j0 k a1 ((s0_0.length : Int) == 0) s0_0 (wrap64 (s0_1 + 1)))) = some (r1, r2) := h
  clear h
  have HC3 := Aside0.mk H
  clear H
  obtain ⟨ASz4_0, cSz4_0, HGz4, hgz4, HSz4_0⟩ := HI0.out
  have hcz4_0 := cellS96_0 HGz4
  have hcz4_1 := cellS96_1 HGz4
  have hfz4_1 := blk_frozen HGz4 1
  clear HGz4 hgz4
  go_enter Try.func69, Try.ntmps69
  go_upto_region 2 with (fail)
  repeat (go_quiet (fail); go_upto_region 2 with (fail))
  go_cut [24] (fun v24 wc => ∃ (kq : Nat) (x24_2 : Bool), v24 = .bool x24_2 ∧ Aside0 (spec_l20Rd_pick.j0 kq a1 x24_2 s0_0 (wrap64 (s0_1 + 1)) = some (r1, r2)) ∧ Aside0 (kq ≤ k) ∧ Aside0 (IsS96 w0 wc g s0_0 (wrap64 (s0_1 + 1))) ∧ Aside0 (KeepBut w wc g none) ∧ Aside0 (Below w0.heap.size w0 wc))
  case first =>
    have H := HC3.out
    clear HC3
    by_cases c5 : a1 < 1
    · rw [if_pos c5] at H
      have c5b0 : decide (a1 < 1) = true := decide_eq_true c5
      clear c5
      (first | rw [c5b0] | (simp only [i64_w, i32_w]; rw [c5b0]) | skip)
      have H' := Aside0.mk H
      clear H
      go_wp2
      repeat (go_quiet (fail); try go_wp2)
      go_meet
      case rel => exact ⟨_, (true), (z_1), H', ⟨z_18⟩, ⟨z_28⟩, ⟨z_29⟩, ⟨z_30⟩⟩
    · rw [if_neg c5] at H
      have c5b0 : decide (a1 < 1) = false := decide_eq_false c5
      clear c5
      (first | rw [c5b0] | (simp only [i64_w, i32_w]; rw [c5b0]) | skip)
      have H' := Aside0.mk H
      clear H
      obtain ⟨ASz6_0, cSz6_0, HGz6, hgz6, HSz6_0⟩ := HI0.out
      have hcz6_0 := cellS96_0 HGz6
      have hcz6_1 := cellS96_1 HGz6
      have hfz6_1 := blk_frozen HGz6 1
      clear HGz6 hgz6
      go_wp2
      repeat (go_quiet (fail); try go_wp2)
      go_meet
      case rel => exact ⟨_, (((s0_0.length : Int) == 0)), (z_1), H', ⟨z_18⟩, ⟨z_28⟩, ⟨z_29⟩, ⟨z_30⟩⟩
  case rest =>
    clear HC3
    try clear p2
    try clear c5
    try clear c5b0
    try clear c6
    try clear p6
    try clear hcz4_0
    try clear hcz4_1
    try clear hcz6_0
    try clear hcz6_1
    try clear hfz4_1
    try clear hfz6_1
    obtain ⟨kq, x24_2, rfl, HA, HJ2, HI0, HK, HB⟩ := hcut
    cases kq with
    | zero => exact absurd HA.out (by simp [spec_l20Rd_pick.j0])
    | succ kj2 =>
      have H := HA.out
      clear HA
      simp only [spec_l20Rd_pick.j0] at H
      by_cases c7 : x24_2 = true
      · subst c7
        rw [if_pos rfl] at H
        simp only [Option.some.injEq, Prod.mk.injEq] at H
        obtain ⟨rfl, rfl⟩ := H
        go_wp2
        repeat (go_quiet (fail); try go_wp2)
        go_ret
        exact ⟨z_10, z_28, z_30, z_29⟩
      · replace c7 := Bool.eq_false_iff.mpr c7
        subst c7
        rw [if_neg (show ¬ (false = true) by decide)] at H
        by_cases c8 : (wrap64 ((wrap64 (s0_1 + 1)) - 1)) < (s0_0.length : Int)
        · rw [if_pos c8] at H
          have c8b0 : decide ((wrap64 ((wrap64 (s0_1 + 1)) - 1)) < (s0_0.length : Int)) = true := decide_eq_true c8
          clear c8
          obtain ⟨ji9, hji9⟩ : ∃ j_ : Int, (wrap64 ((wrap64 (s0_1 + 1)) - 1)) = j_ := ⟨_, rfl⟩
          replace H : (if 0 ≤ (ji9) then (if a1 = 0 then (none) else (some (Int.tmod (wrap64 (rd s0_0 (ji9))) a1, (wrap64 (s0_1 + 1))))) else (none)) = some (r1, r2) := by first | (rw [hji9] at H; exact H) | (simp only [hji9] at H ⊢; exact H)
          (try rw [hji9] at c8b0)
          have hji9w : (IntKind.i64.wrap ((wrap64 (s0_1 + 1)) - 1)) = ji9 := (i64_w _).trans hji9
          by_cases c10 : 0 ≤ (ji9)
          · rw [if_pos c10] at H
            have c10b0 : decide (0 ≤ (ji9)) = true := decide_eq_true c10
            clear c10
            by_cases c11 : a1 = 0
            · rw [if_pos c11] at H
              exact absurd H (z_9)
            · rw [if_neg c11] at H
              have c11b0 : (a1 == 0) = false := beq_eq_false_iff_ne.mpr c11
              have c11b1 : (a1 != 0) = true := bne_iff_ne.mpr c11
              simp only [Option.some.injEq, Prod.mk.injEq] at H
              obtain ⟨rfl, rfl⟩ := H
              obtain ⟨ASz12_0, cSz12_0, HGz12, hgz12, HSz12_0⟩ := HI0.out
              have hcz12_0 := cellS96_0 HGz12
              have hcz12_1 := cellS96_1 HGz12
              have hfz12_1 := blk_frozen HGz12 1
              clear HGz12 hgz12
              have p179 : 0 ≤ ((ji9) : Int) := of_decide_eq_true (z_4)
              have q179 : (ji9) < (s0_0.length : Int) := of_decide_eq_true (z_4)
              obtain ⟨ad179, e179, hx179_0⟩ := Kd.at_int HSz12_0 (ji9) p179 q179
              cases e179
              replace hx179_0 := pw_cell_below HB.out hx179_0
              replace p179 := eq_true p179
              replace q179 := eq_true q179
              go_wp2
              repeat (go_quiet (fail); try go_wp2)
              go_ret
              exact ⟨by first | rfl | (simp [errW_none, errW_some] <;> rfl) | (simp only [← hji9]; first | rfl | (simp [errW_none, errW_some] <;> rfl)) | (simp [*, errW_none, errW_some] <;> rfl), z_28, z_30, z_29⟩
          · rw [if_neg c10] at H
            exact absurd H (z_9)
        · rw [if_neg c8] at H
          have c8b0 : decide ((wrap64 ((wrap64 (s0_1 + 1)) - 1)) < (s0_0.length : Int)) = false := decide_eq_false c8
          clear c8
          by_cases c13 : (s0_0.length : Int) = 0
          · rw [if_pos c13] at H
            exact absurd H (z_9)
          · rw [if_neg c13] at H
            have c13b0 : ((s0_0.length : Int) == 0) = false := beq_eq_false_iff_ne.mpr c13
            have c13b1 : ((s0_0.length : Int) != 0) = true := bne_iff_ne.mpr c13
            have c13b2 : ¬ (s0_0 = []) := fun h_ => c13 (by rw [h_]; rfl)
            obtain ⟨ji14, hji14⟩ : ∃ j_ : Int, (Int.tmod (wrap64 ((wrap64 (s0_1 + 1)) - 1)) (s0_0.length : Int)) = j_ := ⟨_, rfl⟩
            replace H : (if 0 ≤ (ji14) then (if (ji14) < (s0_0.length : Int) then (if 0 ≤ (Int.tmod (wrap64 ((wrap64 ((wrap64 ((wrap64 (s0_1 + 1)) - 1)) * 7)) + 3)) (s0_0.length : Int)) then (if (Int.tmod (wrap64 ((wrap64 ((wrap64 ((wrap64 (s0_1 + 1)) - 1)) * 7)) + 3)) (s0_0.length : Int)) < (s0_0.length : Int) then (if a1 = 0 then (none) else (some (Int.tmod (Go.bits .xor .i64 (wrap64 ((wrap64 ((wrap64 ((wrap64 ((wrap64 (rd s0_0 (ji14))) * 131)) + (wrap64 ((wrap64 (rd s0_0 (Int.tmod (wrap64 ((wrap64 ((wrap64 ((wrap64 (s0_1 + 1)) - 1)) * 7)) + 3)) (s0_0.length : Int)))) * 1117)))) + (wrap64 ((wrap64 ((wrap64 (s0_1 + 1)) - 1)) * 29)))) + (wrap64 ((wrap64 (Int.tdiv (wrap64 ((wrap64 (s0_1 + 1)) - 1)) (s0_0.length : Int))) * 53)))) (wrap64 (Int.tdiv (wrap64 ((wrap64 ((wrap64 ((wrap64 ((wrap64 (rd s0_0 (ji14))) * 131)) + (wrap64 ((wrap64 (rd s0_0 (Int.tmod (wrap64 ((wrap64 ((wrap64 ((wrap64 (s0_1 + 1)) - 1)) * 7)) + 3)) (s0_0.length : Int)))) * 1117)))) + (wrap64 ((wrap64 ((wrap64 (s0_1 + 1)) - 1)) * 29)))) + (wrap64 ((wrap64 (Int.tdiv (wrap64 ((wrap64 (s0_1 + 1)) - 1)) (s0_0.length : Int))) * 53)))) 64))) a1, (wrap64 (s0_1 + 1))))) else (none)) else (none)) else (none)) else (none)) = some (r1, r2) := by first | (rw [hji14] at H; exact H) | (simp only [hji14] at H ⊢; exact H)
            by_cases c15 : 0 ≤ (ji14)
            · rw [if_pos c15] at H
              have c15b0 : decide (0 ≤ (ji14)) = true := decide_eq_true c15
              clear c15
              by_cases c16 : (ji14) < (s0_0.length : Int)
              · rw [if_pos c16] at H
                have c16b0 : decide ((ji14) < (s0_0.length : Int)) = true := decide_eq_true c16
                clear c16
                obtain ⟨ji17, hji17⟩ : ∃ j_ : Int, (Int.tmod (wrap64 ((wrap64 ((wrap64 ((wrap64 (s0_1 + 1)) - 1)) * 7)) + 3)) (s0_0.length : Int)) = j_ := ⟨_, rfl⟩
                replace H : (if 0 ≤ (ji17) then (if (ji17) < (s0_0.length : Int) then (if a1 = 0 then (none) else (some (Int.tmod (Go.bits .xor .i64 (wrap64 ((wrap64 ((wrap64 ((wrap64 ((wrap64 (rd s0_0 (ji14))) * 131)) + (wrap64 ((wrap64 (rd s0_0 (ji17))) * 1117)))) + (wrap64 ((wrap64 ((wrap64 (s0_1 + 1)) - 1)) * 29)))) + (wrap64 ((wrap64 (Int.tdiv (wrap64 ((wrap64 (s0_1 + 1)) - 1)) (s0_0.length : Int))) * 53)))) (wrap64 (Int.tdiv (wrap64 ((wrap64 ((wrap64 ((wrap64 ((wrap64 (rd s0_0 (ji14))) * 131)) + (wrap64 ((wrap64 (rd s0_0 (ji17))) * 1117)))) + (wrap64 ((wrap64 ((wrap64 (s0_1 + 1)) - 1)) * 29)))) + (wrap64 ((wrap64 (Int.tdiv (wrap64 ((wrap64 (s0_1 + 1)) - 1)) (s0_0.length : Int))) * 53)))) 64))) a1, (wrap64 (s0_1 + 1))))) else (none)) else (none)) = some (r1, r2) := by first | (rw [hji17] at H; exact H) | (simp only [hji17] at H ⊢; exact H)
                by_cases c18 : 0 ≤ (ji17)
                · rw [if_pos c18] at H
                  have c18b0 : decide (0 ≤ (ji17)) = true := decide_eq_true c18
                  clear c18
                  by_cases c19 : (ji17) < (s0_0.length : Int)
                  · rw [if_pos c19] at H
                    have c19b0 : decide ((ji17) < (s0_0.length : Int)) = true := decide_eq_true c19
                    clear c19
                    by_cases c20 : a1 = 0
                    · rw [if_pos c20] at H
                      exact absurd H (z_9)
                    · rw [if_neg c20] at H
                      have c20b0 : (a1 == 0) = false := beq_eq_false_iff_ne.mpr c20
                      have c20b1 : (a1 != 0) = true := bne_iff_ne.mpr c20
                      simp only [Option.some.injEq, Prod.mk.injEq] at H
                      obtain ⟨rfl, rfl⟩ := H
                      obtain ⟨ASz21_0, cSz21_0, HGz21, hgz21, HSz21_0⟩ := HI0.out
                      have hcz21_0 := cellS96_0 HGz21
                      have hcz21_1 := cellS96_1 HGz21
                      have hfz21_1 := blk_frozen HGz21 1
                      clear HGz21 hgz21
                      have p180 : 0 ≤ ((ji14) : Int) := of_decide_eq_true (z_4)
                      have q180 : (ji14) < (s0_0.length : Int) := of_decide_eq_true (z_4)
                      obtain ⟨ad180, e180, hx180_0⟩ := Kd.at_int HSz21_0 (ji14) p180 q180
                      cases e180
                      replace hx180_0 := pw_cell_below HB.out hx180_0
                      replace p180 := eq_true p180
                      replace q180 := eq_true q180
                      have p181 : 0 ≤ ((ji17) : Int) := of_decide_eq_true (z_4)
                      have q181 : (ji17) < (s0_0.length : Int) := of_decide_eq_true (z_4)
                      obtain ⟨ad181, e181, hx181_0⟩ := Kd.at_int HSz21_0 (ji17) p181 q181
                      obtain rfl : ad180 = ad181 := (by injection e181)
                      replace hx181_0 := pw_cell_below HB.out hx181_0
                      replace p181 := eq_true p181
                      replace q181 := eq_true q181
                      go_wp2
                      repeat (go_quiet (fail); try go_wp2)
                      go_ret
                      exact ⟨by first | rfl | (simp [errW_none, errW_some] <;> rfl) | (simp only [← hji14, ← hji17]; first | rfl | (simp [errW_none, errW_some] <;> rfl)) | (simp [*, errW_none, errW_some] <;> rfl), z_28, z_30, z_29⟩
                  · rw [if_neg c19] at H
                    exact absurd H (z_9)
                · rw [if_neg c18] at H
                  exact absurd H (z_9)
              · rw [if_neg c16] at H
                exact absurd H (z_9)
            · rw [if_neg c15] at H
              exact absurd H (z_9)

/-! ### spec_l20Text: function 68 -/
def spec_l20Text.f (k : Nat) (s0_0 : List Int) (s0_1 : Int) : Option (ByteArray × Int) := (some (([(⟨#[97]⟩ : ByteArray), (⟨#[98]⟩ : ByteArray), (⟨#[99]⟩ : ByteArray), (⟨#[100, 100]⟩ : ByteArray), (⟨#[101, 101]⟩ : ByteArray), (⟨#[102]⟩ : ByteArray), (⟨#[103, 103]⟩ : ByteArray), (⟨#[104]⟩ : ByteArray)] : List ByteArray) : List ByteArray)).bind fun y182 => ((spec_l20Rd_pick.f k s0_0 s0_1 8).bind fun bt185 => (if 0 ≤ bt185.1 then (if bt185.1 < (y182.length : Int) then (some (rdOf ByteArray.empty y182 bt185.1, bt185.2)) else (none)) else (none)))
theorem spec_l20Text.mono : ∀ a0 a1 k, LeO (spec_l20Text.f k a0 a1) (spec_l20Text.f (k + 1) a0 a1) := by
  intro a0 a1 k
  unfold spec_l20Text.f
  repeat' first
      | (with_reducible exact spec_l20Rd_pick.mono _ _ _ _)
      | (with_reducible exact LeO.refl _)
      | (with_reducible exact LeO.none _)
      | (with_reducible refine LeO.ite ?_ ?_)
      | (with_reducible refine LeO.bind ?_ (fun _ => ?_))
      | exact spec_l20Rd_pick.mono _ _ _ _
      | exact LeO.none _
      | refine LeO.ite ?_ ?_
      | refine LeO.bind ?_ (fun _ => ?_)
set_option maxHeartbeats 8000000 in
set_option maxRecDepth 100000 in
theorem spec_l20Text.calls (k : Nat) (g : Nat) (s0_0 : List Int) (s0_1 : Int) (r1 : ByteArray) (r2 : Int) (w0 w : World) (hI : IsS96 w0 w g s0_0 s0_1) (hB : Below w0.heap.size w0 w) (h : spec_l20Text.f k s0_0 s0_1 = some (r1, r2)) :
    Calls Try.prog 68 #[.pointer (some ⟨g, 0, none⟩)] w fun e w' => e = .returned (.string r1) ∧ IsS96 w0 w' g s0_0 r2 ∧ Below w0.heap.size w0 w' ∧ KeepBut w w' g none := by
  have HI0 := Aside0.mk hI
  have HK := Aside0.mk (KeepBut.refl w g none)
  have HL := Aside0.mk hB.size
  clear hI
  have HW0 := Aside0.mk hB.size
  have HB := Aside0.mk hB
  clear hB
  have H : ((some (([(⟨#[97]⟩ : ByteArray), (⟨#[98]⟩ : ByteArray), (⟨#[99]⟩ : ByteArray), (⟨#[100, 100]⟩ : ByteArray), (⟨#[101, 101]⟩ : ByteArray), (⟨#[102]⟩ : ByteArray), (⟨#[103, 103]⟩ : ByteArray), (⟨#[104]⟩ : ByteArray)] : List ByteArray) : List ByteArray)).bind fun y182 => ((spec_l20Rd_pick.f k s0_0 s0_1 8).bind fun bt185 => (if 0 ≤ bt185.1 then (if bt185.1 < (y182.length : Int) then (some (rdOf ByteArray.empty y182 bt185.1, bt185.2)) else (none)) else (none)))) = some (r1, r2) := h
  clear h
  obtain ⟨y182, hy182⟩ : ∃ y_ : List ByteArray, y_ = (([(⟨#[97]⟩ : ByteArray), (⟨#[98]⟩ : ByteArray), (⟨#[99]⟩ : ByteArray), (⟨#[100, 100]⟩ : ByteArray), (⟨#[101, 101]⟩ : ByteArray), (⟨#[102]⟩ : ByteArray), (⟨#[103, 103]⟩ : ByteArray), (⟨#[104]⟩ : ByteArray)] : List ByteArray)) := ⟨_, rfl⟩
  replace H : ((spec_l20Rd_pick.f k s0_0 s0_1 8).bind fun bt185 => (if 0 ≤ bt185.1 then (if bt185.1 < (y182.length : Int) then (some (rdOf ByteArray.empty y182 bt185.1, bt185.2)) else (none)) else (none))) = some (r1, r2) := by first | (rw [hy182]; with_reducible exact H) | (have H2_ := (Option.bind_some _ _).symm.trans H; rw [hy182]; with_reducible exact H2_) | (have H2_ := (Option.bind_some _ _).symm.trans H; with_reducible exact H2_) | with_reducible exact H | (rw [hy182]; exact H) | exact H
  have Ny182 := Aside0.mk hy182
  clear hy182
  replace H := Option.bind_eq_some_iff.mp H
  obtain ⟨⟨t185, t186⟩, A20, H⟩ := H
  replace H : (if 0 ≤ t185 then (if t185 < (y182.length : Int) then (some (rdOf ByteArray.empty y182 t185, t186)) else (none)) else (none)) = some (r1, r2) := H
  have A2 := Aside0.mk A20
  clear A20
  by_cases c3 : 0 ≤ t185
  · rw [if_pos c3] at H
    have c3b0 : decide (0 ≤ t185) = true := decide_eq_true c3
    clear c3
    by_cases c4 : t185 < (y182.length : Int)
    · rw [if_pos c4] at H
      have c4b0 : decide (t185 < (y182.length : Int)) = true := decide_eq_true c4
      clear c4
      simp only [Option.some.injEq, Prod.mk.injEq] at H
      obtain ⟨rfl, rfl⟩ := H
      go_enter Try.func68, Try.ntmps68
      go_wp2_with (first | ((with_reducible refine gate_dst (N := 3) rfl ?_); refine Kd.R_lit Kd.string _ 9 ?hg (N := 3) ?hd (xs := ([(⟨#[97]⟩ : ByteArray), (⟨#[98]⟩ : ByteArray), (⟨#[99]⟩ : ByteArray), (⟨#[100, 100]⟩ : ByteArray), (⟨#[101, 101]⟩ : ByteArray), (⟨#[102]⟩ : ByteArray), (⟨#[103, 103]⟩ : ByteArray), (⟨#[104]⟩ : ByteArray)] : List ByteArray)) (inner := [.string (⟨#[97]⟩ : ByteArray), .string (⟨#[98]⟩ : ByteArray), .string (⟨#[99]⟩ : ByteArray), .string (⟨#[100, 100]⟩ : ByteArray), .string (⟨#[101, 101]⟩ : ByteArray), .string (⟨#[102]⟩ : ByteArray), .string (⟨#[103, 103]⟩ : ByteArray), .string (⟨#[104]⟩ : ByteArray)]) (ok := fun _ => True) (okp := fun _ => True) ?hr ?hp (fun _ hk => hk) trivial (Below.refl _ _) (Nat.le_refl _) (z_9) ?_; (case hd => rfl); (case hg => rfl); (case hr => exact z_6); (case hp => exact (Reps.one (show Kd.M Kd.string _ _ _ (⟨#[97]⟩ : ByteArray) [.string (⟨#[97]⟩ : ByteArray)] from rfl) (Reps.one (show Kd.M Kd.string _ _ _ (⟨#[98]⟩ : ByteArray) [.string (⟨#[98]⟩ : ByteArray)] from rfl) (Reps.one (show Kd.M Kd.string _ _ _ (⟨#[99]⟩ : ByteArray) [.string (⟨#[99]⟩ : ByteArray)] from rfl) (Reps.one (show Kd.M Kd.string _ _ _ (⟨#[100, 100]⟩ : ByteArray) [.string (⟨#[100, 100]⟩ : ByteArray)] from rfl) (Reps.one (show Kd.M Kd.string _ _ _ (⟨#[101, 101]⟩ : ByteArray) [.string (⟨#[101, 101]⟩ : ByteArray)] from rfl) (Reps.one (show Kd.M Kd.string _ _ _ (⟨#[102]⟩ : ByteArray) [.string (⟨#[102]⟩ : ByteArray)] from rfl) (Reps.one (show Kd.M Kd.string _ _ _ (⟨#[103, 103]⟩ : ByteArray) [.string (⟨#[103, 103]⟩ : ByteArray)] from rfl) (Reps.one (show Kd.M Kd.string _ _ _ (⟨#[104]⟩ : ByteArray) [.string (⟨#[104]⟩ : ByteArray)] from rfl) (Reps.none _ _)))))))))); intro v183 w5 ho6 hb hg_ hnew_; clear hg_ hnew_; (first | rw [← Ny182.out] at ho6 | (simp only [Int.reduceToNat] at ho6; rw [← Ny182.out] at ho6)); have n0_ := Aside0.mk (Kd.R_lower ho6 (keep_size (w := w) (g := g) (row := none) (z_29))); have n1_ := Aside0.mk (IsS96.below (z_28) hb); have n2_ := Aside0.mk (KeepBut.trans (z_29) (KeepBut.of_below hb g none) (.inl rfl)); have n3_ := Aside0.mk (below_step (z_30) hb); clear HI0; clear HK; clear HB; have HO184 := n0_; have HI0 := n1_; have HK := n2_; have HB := n3_; clear n0_ n1_ n2_ n3_; clear hb ho6) | ((with_reducible refine gate_callee (f := 69) rfl ?_); refine goesL_ (some 5) rfl rfl Try.func69 (z_0) rfl #[.pointer (some ⟨g, 0, none⟩), .int .i64 8] rfl (z_11) ?_; (with_reducible refine (spec_l20Rd_pick.calls k g s0_0 s0_1 8 t185 t186 w0 _ ?side1 ?side2 A2.out).mono ?_); (case side1 => exact z_28); (case side2 => exact z_30); rintro e w7 ⟨rfl, hi, hb, hk⟩; refine ⟨_, rfl, ?_⟩; have n0_ := Aside0.mk (Kd.R_mono (Kd.R_keep (IsS96.apart (show IsS96 w0 _ g s0_0 s0_1 from z_28) (by (with_reducible repeat (first | apply Kd.R_alloc | apply Kd.R_drewN | apply Kd.R_drew)); exact HO184.out) (z_3)) hk (fun _ h => h.2)) (fun _ h => h.1)); have n1_ := Aside0.mk (KeepBut.trans (z_29) hk (.inl rfl)); have n2_ := Aside0.mk (hb); have n3_ := Aside0.mk (hi); clear HO184; clear HK; clear HB; clear HI0; have HO184 := n0_; have HK := n1_; have HB := n2_; have HI0 := n3_; clear n0_ n1_ n2_ n3_; (try clear hb); (try clear hb2); (try clear hk); (try clear hi); obtain ⟨Ao8, co8, eo8⟩ := Kd.R_slice HO184.out; subst eo8; have p187 : 0 ≤ (t185 : Int) := of_decide_eq_true (z_4); have q187 : t185 < (y182.length : Int) := of_decide_eq_true (z_4); obtain ⟨ad187, e187, hx187_0⟩ := Kd.at_string (Kd.R_reads' HO184.out).2.2 t185 p187 q187; cases e187; replace p187 := eq_true p187; replace q187 := eq_true q187))
      go_ret
      exact ⟨z_10, z_28, z_30, z_29⟩
    · rw [if_neg c4] at H
      exact absurd H (z_9)
  · rw [if_neg c3] at H
    exact absurd H (z_9)

/-! ### spec_l20Rd_odd: function 78 -/
def spec_l20Rd_odd.f (k : Nat) (s0_0 : List Int) (s0_1 : Int) (a1 : Int) : Option (Bool × Int) := if a1 > 0 then ((spec_l20Rd_pick.f k s0_0 s0_1 a1).bind fun bt188 => (some ((bt188.1 == (wrap64 (a1 - 1))), bt188.2))) else (some (false, s0_1))
theorem spec_l20Rd_odd.mono : ∀ a0 a1 a2 k, LeO (spec_l20Rd_odd.f k a0 a1 a2) (spec_l20Rd_odd.f (k + 1) a0 a1 a2) := by
  intro a0 a1 a2 k
  unfold spec_l20Rd_odd.f
  repeat' first
      | (with_reducible exact spec_l20Rd_pick.mono _ _ _ _)
      | (with_reducible exact LeO.refl _)
      | (with_reducible exact LeO.none _)
      | (with_reducible refine LeO.ite ?_ ?_)
      | (with_reducible refine LeO.bind ?_ (fun _ => ?_))
      | exact spec_l20Rd_pick.mono _ _ _ _
      | exact LeO.none _
      | refine LeO.ite ?_ ?_
      | refine LeO.bind ?_ (fun _ => ?_)
set_option maxHeartbeats 8000000 in
set_option maxRecDepth 100000 in
theorem spec_l20Rd_odd.calls (k : Nat) (g : Nat) (s0_0 : List Int) (s0_1 : Int) (a1 : Int) (r1 : Bool) (r2 : Int) (w0 w : World) (hI : IsS96 w0 w g s0_0 s0_1) (hB : Below w0.heap.size w0 w) (h : spec_l20Rd_odd.f k s0_0 s0_1 a1 = some (r1, r2)) :
    Calls Try.prog 78 #[.pointer (some ⟨g, 0, none⟩), .int .i64 a1] w fun e w' => e = .returned (.bool r1) ∧ IsS96 w0 w' g s0_0 r2 ∧ Below w0.heap.size w0 w' ∧ KeepBut w w' g none := by
  have HI0 := Aside0.mk hI
  have HK := Aside0.mk (KeepBut.refl w g none)
  have HL := Aside0.mk hB.size
  clear hI
  have HW0 := Aside0.mk hB.size
  have HB := Aside0.mk hB
  clear hB
  have H : (if a1 > 0 then ((spec_l20Rd_pick.f k s0_0 s0_1 a1).bind fun bt188 => (some ((bt188.1 == (wrap64 (a1 - 1))), bt188.2))) else (some (false, s0_1))) = some (r1, r2) := h
  clear h
  by_cases c3 : a1 > 0
  · rw [if_pos c3] at H
    have c3b0 : decide (0 < a1) = true := decide_eq_true c3
    clear c3
    replace H := Option.bind_eq_some_iff.mp H
    obtain ⟨⟨t188, t189⟩, A40, H⟩ := H
    replace H : (some ((t188 == (wrap64 (a1 - 1))), t189)) = some (r1, r2) := H
    have A4 := Aside0.mk A40
    clear A40
    simp only [Option.some.injEq, Prod.mk.injEq] at H
    obtain ⟨rfl, rfl⟩ := H
    go_enter Try.func78, Try.ntmps78
    go_wp2_with (first | (go_at_call 69; (with_reducible refine (spec_l20Rd_pick.calls k g s0_0 s0_1 a1 t188 t189 w0 _ ?side1 ?side2 A4.out).mono ?_); (case side1 => exact z_28); (case side2 => exact z_30); rintro e w5 ⟨rfl, hi, hb, hk⟩; have n0_ := Aside0.mk (KeepBut.trans (z_29) hk (.inl rfl)); have n1_ := Aside0.mk (hb); have n2_ := Aside0.mk (hi); clear HK; clear HB; clear HI0; have HK := n0_; have HB := n1_; have HI0 := n2_; clear n0_ n1_ n2_; (try clear hb); (try clear hb2); (try clear hk); (try clear hi)))
    go_ret
    exact ⟨z_10, z_28, z_30, z_29⟩
  · rw [if_neg c3] at H
    have c3b0 : decide (0 < a1) = false := decide_eq_false c3
    clear c3
    simp only [Option.some.injEq, Prod.mk.injEq] at H
    obtain ⟨rfl, rfl⟩ := H
    go_enter Try.func78, Try.ntmps78
    go_wp2
    go_ret
    exact ⟨z_10, z_28, z_30, z_29⟩

/-! ### spec_l20Name: function 59 -/
def spec_l20Name.j0 : Nat → Int → List Int → Int → ByteArray → Int → Int → ByteArray → Int → Option (ByteArray × Int × Int × ByteArray × Int × Int)
  | 0, _, _, _, _, _, _, _, _ => none
  | k + 1, x1, x1000, x1001, x198000, x198001, x198002, x198003, x198004 => (spec_l20Rd_odd.f k x1000 x1001 x1).bind fun bt202 => (if bt202.1 = true then ((spec_l20Rd_pick.f k x1000 bt202.2 4).bind fun bt204 => (if bt204.1 = 0 then ((some (([(⟨#[]⟩ : ByteArray), (⟨#[65]⟩ : ByteArray), (⟨#[97, 98, 99, 100, 101, 102, 103, 104, 105, 106, 107, 108, 109]⟩ : ByteArray)] : List ByteArray) : List ByteArray)).bind fun y206 => ((spec_l20Rd_pick.f k x1000 bt204.2 3).bind fun bt209 => (if 0 ≤ bt209.1 then (if bt209.1 < (y206.length : Int) then (some (rdOf ByteArray.empty y206 bt209.1, x198001, x198002, x198003, x198004, bt209.2)) else (none)) else (none)))) else (if bt204.1 = 1 then ((spec_l20Rd_pick.f k x1000 bt204.2 2).bind fun bt212 => (some (x198000, x198001, x198002, x198003, wrap64 (bt212.1 * 51), bt212.2))) else (if bt204.1 = 2 then ((spec_l20Rd_pick.f k x1000 bt204.2 5).bind fun bt214 => (some (x198000, bt214.1, x198002, x198003, x198004, bt214.2))) else (some (x198000, x198001, x198002, (⟨#[120, 32, 121]⟩ : ByteArray), x198004, bt204.2)))))) else (some (x198000, x198001, x198002, x198003, x198004, bt202.2)))
def spec_l20Name.f (k : Nat) (s0_0 : List Int) (s0_1 : Int) (a1 : Int) : Option (ByteArray × Int × Int × ByteArray × Int × Int) := (spec_l20Text.f k s0_0 s0_1).bind fun bt191 => ((spec_l20Rd_pick.f k s0_0 bt191.2 9).bind fun bt193 => ((spec_l20Rd_pick.f k s0_0 bt193.2 20).bind fun bt195 => ((spec_l20Rd_pick.f k s0_0 bt195.2 2).bind fun bt198 => (if bt198.1 = 0 then ((spec_l20Text.f k s0_0 bt198.2).bind fun bt200 => (spec_l20Name.j0 k a1 s0_0 bt200.2 bt191.1 2 0 bt200.1 (wrap64 (1 + bt195.1)))) else (spec_l20Name.j0 k a1 s0_0 bt198.2 bt191.1 1 bt193.1 (⟨#[]⟩ : ByteArray) (wrap64 (1 + bt195.1)))))))
theorem spec_l20Name.mono_l : ∀ k, (∀ y0 y1 y2 y3 y4 y5 y6 y7, LeO (spec_l20Name.j0 k y0 y1 y2 y3 y4 y5 y6 y7) (spec_l20Name.j0 (k + 1) y0 y1 y2 y3 y4 y5 y6 y7))
  | 0 => fun _ _ _ _ _ _ _ _ r h => by simp [spec_l20Name.j0] at h
  | k + 1 => by
    have ih0 := spec_l20Name.mono_l k
    · intro y0 y1 y2 y3 y4 y5 y6 y7
      unfold spec_l20Name.j0
      repeat' first
      | (with_reducible exact ih0 _ _ _ _ _ _ _ _)
      | (with_reducible exact spec_l20Rd_odd.mono _ _ _ _)
      | (with_reducible exact spec_l20Rd_pick.mono _ _ _ _)
      | (with_reducible exact spec_l20Text.mono _ _ _)
      | (with_reducible exact LeO.refl _)
      | (with_reducible exact LeO.none _)
      | (with_reducible refine LeO.ite ?_ ?_)
      | (with_reducible refine LeO.bind ?_ (fun _ => ?_))
      | exact ih0 _ _ _ _ _ _ _ _
      | exact spec_l20Rd_odd.mono _ _ _ _
      | exact spec_l20Rd_pick.mono _ _ _ _
      | exact spec_l20Text.mono _ _ _
      | exact LeO.none _
      | refine LeO.ite ?_ ?_
      | refine LeO.bind ?_ (fun _ => ?_)
theorem spec_l20Name.mono : ∀ a0 a1 a2 k, LeO (spec_l20Name.f k a0 a1 a2) (spec_l20Name.f (k + 1) a0 a1 a2) := by
  intro a0 a1 a2 k
  have ih0 := spec_l20Name.mono_l k
  unfold spec_l20Name.f
  repeat' first
      | (with_reducible exact ih0 _ _ _ _ _ _ _ _)
      | (with_reducible exact spec_l20Rd_odd.mono _ _ _ _)
      | (with_reducible exact spec_l20Rd_pick.mono _ _ _ _)
      | (with_reducible exact spec_l20Text.mono _ _ _)
      | (with_reducible exact LeO.refl _)
      | (with_reducible exact LeO.none _)
      | (with_reducible refine LeO.ite ?_ ?_)
      | (with_reducible refine LeO.bind ?_ (fun _ => ?_))
      | exact ih0 _ _ _ _ _ _ _ _
      | exact spec_l20Rd_odd.mono _ _ _ _
      | exact spec_l20Rd_pick.mono _ _ _ _
      | exact spec_l20Text.mono _ _ _
      | exact LeO.none _
      | refine LeO.ite ?_ ?_
      | refine LeO.bind ?_ (fun _ => ?_)
set_option maxHeartbeats 8000000 in
set_option maxRecDepth 100000 in
theorem spec_l20Name.calls (k : Nat) (g : Nat) (s0_0 : List Int) (s0_1 : Int) (a1 : Int) (r1 : ByteArray) (r2 : Int) (r3 : Int) (r4 : ByteArray) (r5 : Int) (r6 : Int) (w0 w : World) (hI : IsS96 w0 w g s0_0 s0_1) (hB : Below w0.heap.size w0 w) (h : spec_l20Name.f k s0_0 s0_1 a1 = some (r1, r2, r3, r4, r5, r6)) :
    Calls Try.prog 59 #[.pointer (some ⟨g, 0, none⟩), .int .i64 a1] w fun e w' => e = .returned (.agg #[.string r1, .int .i64 r2, .int .i64 r3, .string r4, .int .i64 r5]) ∧ IsS96 w0 w' g s0_0 r6 ∧ Below w0.heap.size w0 w' ∧ KeepBut w w' g none := by
  have hu26 := Try.underlying26
  have HI0 := Aside0.mk hI
  have HK := Aside0.mk (KeepBut.refl w g none)
  have HL := Aside0.mk hB.size
  clear hI
  have HW0 := Aside0.mk hB.size
  have HB := Aside0.mk hB
  clear hB
  have H : ((spec_l20Text.f k s0_0 s0_1).bind fun bt191 => ((spec_l20Rd_pick.f k s0_0 bt191.2 9).bind fun bt193 => ((spec_l20Rd_pick.f k s0_0 bt193.2 20).bind fun bt195 => ((spec_l20Rd_pick.f k s0_0 bt195.2 2).bind fun bt198 => (if bt198.1 = 0 then ((spec_l20Text.f k s0_0 bt198.2).bind fun bt200 => (spec_l20Name.j0 k a1 s0_0 bt200.2 bt191.1 2 0 bt200.1 (wrap64 (1 + bt195.1)))) else (spec_l20Name.j0 k a1 s0_0 bt198.2 bt191.1 1 bt193.1 (⟨#[]⟩ : ByteArray) (wrap64 (1 + bt195.1)))))))) = some (r1, r2, r3, r4, r5, r6) := h
  clear h
  replace H := Option.bind_eq_some_iff.mp H
  obtain ⟨⟨t191, t192⟩, A30, H⟩ := H
  replace H : ((spec_l20Rd_pick.f k s0_0 t192 9).bind fun bt193 => ((spec_l20Rd_pick.f k s0_0 bt193.2 20).bind fun bt195 => ((spec_l20Rd_pick.f k s0_0 bt195.2 2).bind fun bt198 => (if bt198.1 = 0 then ((spec_l20Text.f k s0_0 bt198.2).bind fun bt200 => (spec_l20Name.j0 k a1 s0_0 bt200.2 t191 2 0 bt200.1 (wrap64 (1 + bt195.1)))) else (spec_l20Name.j0 k a1 s0_0 bt198.2 t191 1 bt193.1 (⟨#[]⟩ : ByteArray) (wrap64 (1 + bt195.1))))))) = some (r1, r2, r3, r4, r5, r6) := H
  have A3 := Aside0.mk A30
  clear A30
  replace H := Option.bind_eq_some_iff.mp H
  obtain ⟨⟨t193, t194⟩, A40, H⟩ := H
  replace H : ((spec_l20Rd_pick.f k s0_0 t194 20).bind fun bt195 => ((spec_l20Rd_pick.f k s0_0 bt195.2 2).bind fun bt198 => (if bt198.1 = 0 then ((spec_l20Text.f k s0_0 bt198.2).bind fun bt200 => (spec_l20Name.j0 k a1 s0_0 bt200.2 t191 2 0 bt200.1 (wrap64 (1 + bt195.1)))) else (spec_l20Name.j0 k a1 s0_0 bt198.2 t191 1 t193 (⟨#[]⟩ : ByteArray) (wrap64 (1 + bt195.1)))))) = some (r1, r2, r3, r4, r5, r6) := H
  have A4 := Aside0.mk A40
  clear A40
  replace H := Option.bind_eq_some_iff.mp H
  obtain ⟨⟨t195, t196⟩, A50, H⟩ := H
  replace H : ((spec_l20Rd_pick.f k s0_0 t196 2).bind fun bt198 => (if bt198.1 = 0 then ((spec_l20Text.f k s0_0 bt198.2).bind fun bt200 => (spec_l20Name.j0 k a1 s0_0 bt200.2 t191 2 0 bt200.1 (wrap64 (1 + t195)))) else (spec_l20Name.j0 k a1 s0_0 bt198.2 t191 1 t193 (⟨#[]⟩ : ByteArray) (wrap64 (1 + t195))))) = some (r1, r2, r3, r4, r5, r6) := H
  have A5 := Aside0.mk A50
  clear A50
  replace H := Option.bind_eq_some_iff.mp H
  obtain ⟨⟨t198, t199⟩, A60, H⟩ := H
  replace H : (if t198 = 0 then ((spec_l20Text.f k s0_0 t199).bind fun bt200 => (spec_l20Name.j0 k a1 s0_0 bt200.2 t191 2 0 bt200.1 (wrap64 (1 + t195)))) else (spec_l20Name.j0 k a1 s0_0 t199 t191 1 t193 (⟨#[]⟩ : ByteArray) (wrap64 (1 + t195)))) = some (r1, r2, r3, r4, r5, r6) := H
  have A6 := Aside0.mk A60
  clear A60
  have HC7 := Aside0.mk H
  clear H
  go_enter Try.func59, Try.ntmps59
  go_upto_if 16 with (first | ((with_reducible refine gate_dst (N := 4) rfl ?_); refine box_event ?hg (N := 4) ?hd (cs := #[.string (⟨#[]⟩ : ByteArray), .int .i64 0, .int .i64 0, .string (⟨#[]⟩ : ByteArray), .int .i64 0]) (t := 26) ?hr ?_; (case hd => rfl); (case hg => rfl); (case hr => exact z_6); intro gb190 hg w8 hbox hb; have n0_ := Aside0.mk (IsS96.below (z_28) hb); have n1_ := Aside0.mk (KeepBut.trans (z_29) (KeepBut.of_below hb g none) (.inl rfl)); have n2_ := Aside0.mk (below_step (z_30) hb); have n3_ := Aside0.mk (hbox); have n4_ := Aside0.mk ((z_31 : w.heap.size ≤ gb190)); have n5_ := Aside0.mk ((Nat.le_trans HW0.out (z_31 : w.heap.size ≤ gb190) : w0.heap.size ≤ gb190)); have n6_ := Aside0.mk ((by rw [hg]; exact Nat.ne_of_lt (IsS96.lt (show IsS96 w0 _ g s0_0 s0_1 from z_28)) : g ≠ gb190)); have n7_ := Aside0.mk ((by rw [hg]; exact Nat.ne_of_gt (IsS96.lt (show IsS96 w0 _ g s0_0 s0_1 from z_28)) : gb190 ≠ g)); clear HI0; clear HK; clear HB; have HI0 := n0_; have HK := n1_; have HB := n2_; have BK190 := n3_; have GW190 := n4_; have GE190 := n5_; have NB0_190 := n6_; have NB190_0 := n7_; clear n0_ n1_ n2_ n3_ n4_ n5_ n6_ n7_; clear hb hbox hg) | ((with_reducible refine gate_callee (f := 68) rfl ?_); refine goesL_ (some 7) rfl rfl Try.func68 (z_0) rfl #[.pointer (some ⟨g, 0, none⟩)] rfl (z_11) ?_; (with_reducible refine (spec_l20Text.calls k g s0_0 s0_1 t191 t192 w0 _ ?side1 ?side2 A3.out).mono ?_); (case side1 => exact z_32); (case side2 => exact z_33); rintro e w9 ⟨rfl, hi, hb, hk⟩; refine ⟨_, rfl, ?_⟩; have n0_ := Aside0.mk (KeepBut.blk hk (g' := gb190) (o := .cells #[.string (⟨#[]⟩ : ByteArray), .int .i64 0, .int .i64 0, .string (⟨#[]⟩ : ByteArray), .int .i64 0] 26 (0, 0)) (z_34) NB190_0.out (z_9)); have n1_ := Aside0.mk (KeepBut.trans (z_35) hk (.inl rfl)); have n2_ := Aside0.mk (hb); have n3_ := Aside0.mk (hi); clear BK190; clear HK; clear HB; clear HI0; have BK190 := n0_; have HK := n1_; have HB := n2_; have HI0 := n3_; clear n0_ n1_ n2_ n3_; (try clear hb); (try clear hb2); (try clear hk); (try clear hi)) | ((with_reducible refine gate_callee (f := 69) rfl ?_); refine goesL_ (some 9) rfl rfl Try.func69 (z_0) rfl #[.pointer (some ⟨g, 0, none⟩), .int .i64 9] rfl (z_11) ?_; (with_reducible refine (spec_l20Rd_pick.calls k g s0_0 t192 9 t193 t194 w0 _ ?side1 ?side2 A4.out).mono ?_); (case side1 => exact z_32); (case side2 => exact z_33); rintro e w10 ⟨rfl, hi, hb, hk⟩; refine ⟨_, rfl, ?_⟩; have n0_ := Aside0.mk (KeepBut.blk hk (g' := gb190) (o := .cells #[.string (⟨#[]⟩ : ByteArray), .int .i64 0, .int .i64 0, .string (⟨#[]⟩ : ByteArray), .int .i64 0] 26 (0, 0)) (z_34) NB190_0.out (z_9)); have n1_ := Aside0.mk (KeepBut.trans (z_35) hk (.inl rfl)); have n2_ := Aside0.mk (hb); have n3_ := Aside0.mk (hi); clear BK190; clear HK; clear HB; clear HI0; have BK190 := n0_; have HK := n1_; have HB := n2_; have HI0 := n3_; clear n0_ n1_ n2_ n3_; (try clear hb); (try clear hb2); (try clear hk); (try clear hi)) | ((with_reducible refine gate_callee (f := 69) rfl ?_); refine goesL_ (some 11) rfl rfl Try.func69 (z_0) rfl #[.pointer (some ⟨g, 0, none⟩), .int .i64 20] rfl (z_11) ?_; (with_reducible refine (spec_l20Rd_pick.calls k g s0_0 t194 20 t195 t196 w0 _ ?side1 ?side2 A5.out).mono ?_); (case side1 => exact z_32); (case side2 => exact z_33); rintro e w11 ⟨rfl, hi, hb, hk⟩; refine ⟨_, rfl, ?_⟩; have n0_ := Aside0.mk (KeepBut.blk hk (g' := gb190) (o := .cells #[.string (⟨#[]⟩ : ByteArray), .int .i64 0, .int .i64 0, .string (⟨#[]⟩ : ByteArray), .int .i64 0] 26 (0, 0)) (z_34) NB190_0.out (z_9)); have n1_ := Aside0.mk (KeepBut.trans (z_35) hk (.inl rfl)); have n2_ := Aside0.mk (hb); have n3_ := Aside0.mk (hi); clear BK190; clear HK; clear HB; clear HI0; have BK190 := n0_; have HK := n1_; have HB := n2_; have HI0 := n3_; clear n0_ n1_ n2_ n3_; (try clear hb); (try clear hb2); (try clear hk); (try clear hi)) | ((with_reducible refine gate_dst (N := 5) rfl ?_); refine box_event ?hg (N := 5) ?hd (cs := #[.string (⟨#[]⟩ : ByteArray), .int .i64 0, .int .i64 0, .string (⟨#[]⟩ : ByteArray), .int .i64 0]) (t := 26) ?hr ?_; (case hd => rfl); (case hg => rfl); (case hr => exact z_6); intro gb197 hg w12 hbox hb; have n0_ := Aside0.mk (IsS96.below (z_32) hb); have n1_ := Aside0.mk (blk_below (g := gb190) (o := .cells #[.string (⟨#[]⟩ : ByteArray), .int .i64 0, .int .i64 0, .string (⟨#[]⟩ : ByteArray), .int .i64 0] 26 (0, 0)) (z_34) hb); have n2_ := Aside0.mk (KeepBut.trans (z_35) (KeepBut.of_below hb g none) (.inl rfl)); have n3_ := Aside0.mk (below_step (z_33) hb); have n4_ := Aside0.mk (hbox); have n5_ := Aside0.mk ((z_36 : w.heap.size ≤ gb197)); have n6_ := Aside0.mk ((Nat.le_trans HW0.out (z_36 : w.heap.size ≤ gb197) : w0.heap.size ≤ gb197)); have n7_ := Aside0.mk ((by rw [hg]; exact Nat.ne_of_lt (blk_lt (g := gb190) (o := .cells #[.string (⟨#[]⟩ : ByteArray), .int .i64 0, .int .i64 0, .string (⟨#[]⟩ : ByteArray), .int .i64 0] 26 (0, 0)) (z_34)) : gb190 ≠ gb197)); have n8_ := Aside0.mk ((by rw [hg]; exact Nat.ne_of_gt (blk_lt (g := gb190) (o := .cells #[.string (⟨#[]⟩ : ByteArray), .int .i64 0, .int .i64 0, .string (⟨#[]⟩ : ByteArray), .int .i64 0] 26 (0, 0)) (z_34)) : gb197 ≠ gb190)); have n9_ := Aside0.mk ((by rw [hg]; exact Nat.ne_of_lt (IsS96.lt (show IsS96 w0 _ g s0_0 t196 from z_32)) : g ≠ gb197)); have n10_ := Aside0.mk ((by rw [hg]; exact Nat.ne_of_gt (IsS96.lt (show IsS96 w0 _ g s0_0 t196 from z_32)) : gb197 ≠ g)); clear HI0; clear BK190; clear HK; clear HB; have HI0 := n0_; have BK190 := n1_; have HK := n2_; have HB := n3_; have BK197 := n4_; have GW197 := n5_; have GE197 := n6_; have NB190_197 := n7_; have NB197_190 := n8_; have NB0_197 := n9_; have NB197_0 := n10_; clear n0_ n1_ n2_ n3_ n4_ n5_ n6_ n7_ n8_ n9_ n10_; clear hb hbox hg; have hnb13 := NB197_190.out; have hnc13 := NB190_197.out; have hnb14 := NB197_0.out; have hnc14 := NB0_197.out; have hcz15_0 : w12.cell? ⟨gb197, 0, none⟩ = some (.string (⟨#[]⟩ : ByteArray)) := (blk_cell BK197.out 0).trans rfl; have hcz15_1 : w12.cell? ⟨gb197, 1, none⟩ = some (.int .i64 0) := (blk_cell BK197.out 1).trans rfl; have hcz15_2 : w12.cell? ⟨gb197, 2, none⟩ = some (.int .i64 0) := (blk_cell BK197.out 2).trans rfl; have hcz15_3 : w12.cell? ⟨gb197, 3, none⟩ = some (.string (⟨#[]⟩ : ByteArray)) := (blk_cell BK197.out 3).trans rfl; have hcz15_4 : w12.cell? ⟨gb197, 4, none⟩ = some (.int .i64 0) := (blk_cell BK197.out 4).trans rfl; have hfz15_0 := blk_frozen BK197.out 0; have hfz15_1 := blk_frozen BK197.out 1; have hfz15_2 := blk_frozen BK197.out 2; have hfz15_3 := blk_frozen BK197.out 3; have hfz15_4 := blk_frozen BK197.out 4) | ((with_reducible refine gate_callee (f := 69) rfl ?_); refine goesL_ (some 15) rfl rfl Try.func69 (z_0) rfl #[.pointer (some ⟨g, 0, none⟩), .int .i64 2] rfl (z_11) ?_; (with_reducible refine (spec_l20Rd_pick.calls k g s0_0 t196 2 t198 t199 w0 _ ?side1 ?side2 A6.out).mono ?_); (case side1 => exact z_37); (case side2 => exact z_38); rintro e w16 ⟨rfl, hi, hb, hk⟩; refine ⟨_, rfl, ?_⟩; have n0_ := Aside0.mk (KeepBut.blk hk (g' := gb190) (o := .cells #[.string (⟨#[]⟩ : ByteArray), .int .i64 0, .int .i64 0, .string (⟨#[]⟩ : ByteArray), .int .i64 0] 26 (0, 0)) (by (with_reducible repeat (first | refine blk_drewN ?_ _ | refine blk_drew ?_ | refine blk_alloc ?_ _)); refine blk_far ?_ NB190_197.out _; (with_reducible repeat (first | refine blk_drewN ?_ _ | refine blk_drew ?_ | refine blk_alloc ?_ _)); refine blk_far ?_ NB190_197.out _; (with_reducible repeat (first | refine blk_drewN ?_ _ | refine blk_drew ?_ | refine blk_alloc ?_ _)); refine blk_far ?_ NB190_197.out _; (with_reducible repeat (first | refine blk_drewN ?_ _ | refine blk_drew ?_ | refine blk_alloc ?_ _)); refine blk_far ?_ NB190_197.out _; (with_reducible repeat (first | refine blk_drewN ?_ _ | refine blk_drew ?_ | refine blk_alloc ?_ _)); refine blk_far ?_ NB190_197.out _; (with_reducible repeat (first | refine blk_drewN ?_ _ | refine blk_drew ?_ | refine blk_alloc ?_ _)); exact BK190.out) NB190_0.out (z_9)); have n1_ := Aside0.mk (KeepBut.blk hk (g' := gb197) (o := .cells #[.string t191, .int .i64 1, .int .i64 t193, .string (⟨#[]⟩ : ByteArray), .int .i64 (wrap64 (1 + t195))] 26 (0, 0)) (by (with_reducible repeat (first | refine blk_drewN ?_ _ | refine blk_drew ?_ | refine blk_alloc ?_ _)); refine blk_put (cs := #[.string t191, .int .i64 1, .int .i64 t193, .string (⟨#[]⟩ : ByteArray), .int .i64 0]) ?_ 4 _ rfl; (with_reducible repeat (first | refine blk_drewN ?_ _ | refine blk_drew ?_ | refine blk_alloc ?_ _)); refine blk_put (cs := #[.string t191, .int .i64 1, .int .i64 t193, .string (⟨#[]⟩ : ByteArray), .int .i64 0]) ?_ 3 _ rfl; (with_reducible repeat (first | refine blk_drewN ?_ _ | refine blk_drew ?_ | refine blk_alloc ?_ _)); refine blk_put (cs := #[.string t191, .int .i64 1, .int .i64 0, .string (⟨#[]⟩ : ByteArray), .int .i64 0]) ?_ 2 _ rfl; (with_reducible repeat (first | refine blk_drewN ?_ _ | refine blk_drew ?_ | refine blk_alloc ?_ _)); refine blk_put (cs := #[.string t191, .int .i64 0, .int .i64 0, .string (⟨#[]⟩ : ByteArray), .int .i64 0]) ?_ 1 _ rfl; (with_reducible repeat (first | refine blk_drewN ?_ _ | refine blk_drew ?_ | refine blk_alloc ?_ _)); refine blk_put (cs := #[.string (⟨#[]⟩ : ByteArray), .int .i64 0, .int .i64 0, .string (⟨#[]⟩ : ByteArray), .int .i64 0]) ?_ 0 _ rfl; (with_reducible repeat (first | refine blk_drewN ?_ _ | refine blk_drew ?_ | refine blk_alloc ?_ _)); exact BK197.out) NB197_0.out (z_9)); have n2_ := Aside0.mk (KeepBut.trans (z_39) hk (.inl rfl)); have n3_ := Aside0.mk (hb); have n4_ := Aside0.mk (hi); clear BK190; clear BK197; clear HK; clear HB; clear HI0; have BK190 := n0_; have BK197 := n1_; have HK := n2_; have HB := n3_; have HI0 := n4_; clear n0_ n1_ n2_ n3_ n4_; (try clear hb); (try clear hb2); (try clear hk); (try clear hi)))
  (try simp only [Act.put, List.setIfInBounds_toArray, List.set_cons_zero, List.set_cons_succ])
  go_cut [] (fun wc => ∃ (kq : Nat) (x1001_6 : Int) (x198001_6 : Int) (x198002_6 : Int) (x198003_6 : ByteArray), Aside0 (spec_l20Name.j0 kq a1 s0_0 x1001_6 t191 x198001_6 x198002_6 x198003_6 (wrap64 (1 + t195)) = some (r1, r2, r3, r4, r5, r6)) ∧ Aside0 (kq ≤ k) ∧ Aside0 (wc.heap[gb190]? = some (.cells #[.string (⟨#[]⟩ : ByteArray), .int .i64 0, .int .i64 0, .string (⟨#[]⟩ : ByteArray), .int .i64 0] 26 (0, 0))) ∧ Aside0 (wc.heap[gb197]? = some (.cells #[.string t191, .int .i64 x198001_6, .int .i64 x198002_6, .string x198003_6, .int .i64 (wrap64 (1 + t195))] 26 (0, 0))) ∧ Aside0 (IsS96 w0 wc g s0_0 x1001_6) ∧ Aside0 (KeepBut w wc g none) ∧ Aside0 (Below w0.heap.size w0 wc))
  case first =>
    have H := HC7.out
    clear HC7
    by_cases c17 : t198 = 0
    · rw [if_pos c17] at H
      have c17b0 : (t198 == 0) = true := beq_iff_eq.mpr c17
      have c17b1 : (t198 != 0) = false := bne_eq_false_iff_eq.mpr c17
      clear c17
      (first | rw [c17b0] | (simp only [i64_w, i32_w]; rw [c17b0]) | skip)
      replace H := Option.bind_eq_some_iff.mp H
      obtain ⟨⟨t200, t201⟩, A180, H⟩ := H
      replace H : (spec_l20Name.j0 k a1 s0_0 t201 t191 2 0 t200 (wrap64 (1 + t195))) = some (r1, r2, r3, r4, r5, r6) := H
      have A18 := Aside0.mk A180
      clear A180
      have H' := Aside0.mk H
      clear H
      have hnb19 := NB197_190.out
      have hnc19 := NB190_197.out
      have hnb20 := NB197_0.out
      have hnc20 := NB0_197.out
      have hcz21_0 : w16.cell? ⟨gb197, 0, none⟩ = some (.string t191) := (blk_cell BK197.out 0).trans rfl
      have hcz21_1 : w16.cell? ⟨gb197, 1, none⟩ = some (.int .i64 1) := (blk_cell BK197.out 1).trans rfl
      have hcz21_2 : w16.cell? ⟨gb197, 2, none⟩ = some (.int .i64 t193) := (blk_cell BK197.out 2).trans rfl
      have hcz21_3 : w16.cell? ⟨gb197, 3, none⟩ = some (.string (⟨#[]⟩ : ByteArray)) := (blk_cell BK197.out 3).trans rfl
      have hcz21_4 : w16.cell? ⟨gb197, 4, none⟩ = some (.int .i64 (wrap64 (1 + t195))) := (blk_cell BK197.out 4).trans rfl
      have hfz21_0 := blk_frozen BK197.out 0
      have hfz21_1 := blk_frozen BK197.out 1
      have hfz21_2 := blk_frozen BK197.out 2
      have hfz21_3 := blk_frozen BK197.out 3
      have hfz21_4 := blk_frozen BK197.out 4
      go_wp2_with (first | ((with_reducible refine gate_callee (f := 68) rfl ?_); refine goesL_ (some 20) rfl rfl Try.func68 (z_0) rfl #[.pointer (some ⟨g, 0, none⟩)] rfl (z_11) ?_; (with_reducible refine (spec_l20Text.calls k g s0_0 t199 t200 t201 w0 _ ?side1 ?side2 A18.out).mono ?_); (case side1 => exact z_37); (case side2 => exact z_38); rintro e w22 ⟨rfl, hi, hb, hk⟩; refine ⟨_, rfl, ?_⟩; have n0_ := Aside0.mk (KeepBut.blk hk (g' := gb190) (o := .cells #[.string (⟨#[]⟩ : ByteArray), .int .i64 0, .int .i64 0, .string (⟨#[]⟩ : ByteArray), .int .i64 0] 26 (0, 0)) (by (with_reducible repeat (first | refine blk_drewN ?_ _ | refine blk_drew ?_ | refine blk_alloc ?_ _)); refine blk_far ?_ NB190_197.out _; (with_reducible repeat (first | refine blk_drewN ?_ _ | refine blk_drew ?_ | refine blk_alloc ?_ _)); refine blk_far ?_ NB190_197.out _; (with_reducible repeat (first | refine blk_drewN ?_ _ | refine blk_drew ?_ | refine blk_alloc ?_ _)); exact BK190.out) NB190_0.out (z_9)); have n1_ := Aside0.mk (KeepBut.blk hk (g' := gb197) (o := .cells #[.string t191, .int .i64 2, .int .i64 0, .string (⟨#[]⟩ : ByteArray), .int .i64 (wrap64 (1 + t195))] 26 (0, 0)) (by (with_reducible repeat (first | refine blk_drewN ?_ _ | refine blk_drew ?_ | refine blk_alloc ?_ _)); refine blk_put (cs := #[.string t191, .int .i64 2, .int .i64 t193, .string (⟨#[]⟩ : ByteArray), .int .i64 (wrap64 (1 + t195))]) ?_ 2 _ rfl; (with_reducible repeat (first | refine blk_drewN ?_ _ | refine blk_drew ?_ | refine blk_alloc ?_ _)); refine blk_put (cs := #[.string t191, .int .i64 1, .int .i64 t193, .string (⟨#[]⟩ : ByteArray), .int .i64 (wrap64 (1 + t195))]) ?_ 1 _ rfl; (with_reducible repeat (first | refine blk_drewN ?_ _ | refine blk_drew ?_ | refine blk_alloc ?_ _)); exact BK197.out) NB197_0.out (z_9)); have n2_ := Aside0.mk (KeepBut.trans (z_39) hk (.inl rfl)); have n3_ := Aside0.mk (hb); have n4_ := Aside0.mk (hi); clear BK190; clear BK197; clear HK; clear HB; clear HI0; have BK190 := n0_; have BK197 := n1_; have HK := n2_; have HB := n3_; have HI0 := n4_; clear n0_ n1_ n2_ n3_ n4_; (try clear hb); (try clear hb2); (try clear hk); (try clear hi); have hcz23_0 : w22.cell? ⟨gb197, 0, none⟩ = some (.string t191) := (blk_cell BK197.out 0).trans rfl; have hcz23_1 : w22.cell? ⟨gb197, 1, none⟩ = some (.int .i64 2) := (blk_cell BK197.out 1).trans rfl; have hcz23_2 : w22.cell? ⟨gb197, 2, none⟩ = some (.int .i64 0) := (blk_cell BK197.out 2).trans rfl; have hcz23_3 : w22.cell? ⟨gb197, 3, none⟩ = some (.string (⟨#[]⟩ : ByteArray)) := (blk_cell BK197.out 3).trans rfl; have hcz23_4 : w22.cell? ⟨gb197, 4, none⟩ = some (.int .i64 (wrap64 (1 + t195))) := (blk_cell BK197.out 4).trans rfl; have hfz23_0 := blk_frozen BK197.out 0; have hfz23_1 := blk_frozen BK197.out 1; have hfz23_2 := blk_frozen BK197.out 2; have hfz23_3 := blk_frozen BK197.out 3; have hfz23_4 := blk_frozen BK197.out 4))
      go_meet
      case rel => exact ⟨_, (t201), (2), (0), (t200), H', ⟨z_18⟩, ⟨by (with_reducible repeat (first | refine blk_drewN ?_ _ | refine blk_drew ?_ | refine blk_alloc ?_ _)); refine blk_far ?_ NB190_197.out _; (with_reducible repeat (first | refine blk_drewN ?_ _ | refine blk_drew ?_ | refine blk_alloc ?_ _)); exact BK190.out⟩, ⟨by (with_reducible repeat (first | refine blk_drewN ?_ _ | refine blk_drew ?_ | refine blk_alloc ?_ _)); refine blk_put (cs := #[.string t191, .int .i64 2, .int .i64 0, .string (⟨#[]⟩ : ByteArray), .int .i64 (wrap64 (1 + t195))]) ?_ 3 _ rfl; (with_reducible repeat (first | refine blk_drewN ?_ _ | refine blk_drew ?_ | refine blk_alloc ?_ _)); exact BK197.out⟩, ⟨z_37⟩, ⟨z_39⟩, ⟨z_38⟩⟩
    · rw [if_neg c17] at H
      have c17b0 : (t198 == 0) = false := beq_eq_false_iff_ne.mpr c17
      have c17b1 : (t198 != 0) = true := bne_iff_ne.mpr c17
      (first | rw [c17b0] | (simp only [i64_w, i32_w]; rw [c17b0]) | skip)
      have H' := Aside0.mk H
      clear H
      go_wp2
      go_meet
      case rel => exact ⟨_, (t199), (1), (t193), ((⟨#[]⟩ : ByteArray)), H', ⟨z_18⟩, ⟨z_34⟩, ⟨z_40⟩, ⟨z_37⟩, ⟨z_39⟩, ⟨z_38⟩⟩
  case rest =>
    clear HC7
    try clear c1
    try clear c2
    try clear p2
    try clear c5
    try clear c6
    try clear p6
    try clear c13
    try clear c14
    try clear c17
    try clear c17b0
    try clear c17b1
    try clear c19
    try clear c20
    try clear hcz15_0
    try clear hcz15_1
    try clear hcz15_2
    try clear hcz15_3
    try clear hcz15_4
    try clear hcz21_0
    try clear hcz21_1
    try clear hcz21_2
    try clear hcz21_3
    try clear hcz21_4
    try clear hcz23_0
    try clear hcz23_1
    try clear hcz23_2
    try clear hcz23_3
    try clear hcz23_4
    try clear hfz15_0
    try clear hfz15_1
    try clear hfz15_2
    try clear hfz15_3
    try clear hfz15_4
    try clear hfz21_0
    try clear hfz21_1
    try clear hfz21_2
    try clear hfz21_3
    try clear hfz21_4
    try clear hfz23_0
    try clear hfz23_1
    try clear hfz23_2
    try clear hfz23_3
    try clear hfz23_4
    obtain ⟨kq, x1001_6, x198001_6, x198002_6, x198003_6, HA, HJ6, BK190, BK197, HI0, HK, HB⟩ := hcut
    cases kq with
    | zero => exact absurd HA.out (by simp [spec_l20Name.j0])
    | succ kj6 =>
      have H := HA.out
      clear HA
      simp only [spec_l20Name.j0] at H
      replace H := Option.bind_eq_some_iff.mp H
      obtain ⟨⟨t202, t203⟩, A240, H⟩ := H
      replace H : (if t202 = true then ((spec_l20Rd_pick.f kj6 s0_0 t203 4).bind fun bt204 => (if bt204.1 = 0 then ((some (([(⟨#[]⟩ : ByteArray), (⟨#[65]⟩ : ByteArray), (⟨#[97, 98, 99, 100, 101, 102, 103, 104, 105, 106, 107, 108, 109]⟩ : ByteArray)] : List ByteArray) : List ByteArray)).bind fun y206 => ((spec_l20Rd_pick.f kj6 s0_0 bt204.2 3).bind fun bt209 => (if 0 ≤ bt209.1 then (if bt209.1 < (y206.length : Int) then (some (rdOf ByteArray.empty y206 bt209.1, x198001_6, x198002_6, x198003_6, (wrap64 (1 + t195)), bt209.2)) else (none)) else (none)))) else (if bt204.1 = 1 then ((spec_l20Rd_pick.f kj6 s0_0 bt204.2 2).bind fun bt212 => (some (t191, x198001_6, x198002_6, x198003_6, wrap64 (bt212.1 * 51), bt212.2))) else (if bt204.1 = 2 then ((spec_l20Rd_pick.f kj6 s0_0 bt204.2 5).bind fun bt214 => (some (t191, bt214.1, x198002_6, x198003_6, (wrap64 (1 + t195)), bt214.2))) else (some (t191, x198001_6, x198002_6, (⟨#[120, 32, 121]⟩ : ByteArray), (wrap64 (1 + t195)), bt204.2)))))) else (some (t191, x198001_6, x198002_6, x198003_6, (wrap64 (1 + t195)), t203))) = some (r1, r2, r3, r4, r5, r6) := H
      have A24 := Aside0.mk A240
      clear A240
      by_cases c25 : t202 = true
      · subst c25
        rw [if_pos rfl] at H
        replace H := Option.bind_eq_some_iff.mp H
        obtain ⟨⟨t204, t205⟩, A260, H⟩ := H
        replace H : (if t204 = 0 then ((some (([(⟨#[]⟩ : ByteArray), (⟨#[65]⟩ : ByteArray), (⟨#[97, 98, 99, 100, 101, 102, 103, 104, 105, 106, 107, 108, 109]⟩ : ByteArray)] : List ByteArray) : List ByteArray)).bind fun y206 => ((spec_l20Rd_pick.f kj6 s0_0 t205 3).bind fun bt209 => (if 0 ≤ bt209.1 then (if bt209.1 < (y206.length : Int) then (some (rdOf ByteArray.empty y206 bt209.1, x198001_6, x198002_6, x198003_6, (wrap64 (1 + t195)), bt209.2)) else (none)) else (none)))) else (if t204 = 1 then ((spec_l20Rd_pick.f kj6 s0_0 t205 2).bind fun bt212 => (some (t191, x198001_6, x198002_6, x198003_6, wrap64 (bt212.1 * 51), bt212.2))) else (if t204 = 2 then ((spec_l20Rd_pick.f kj6 s0_0 t205 5).bind fun bt214 => (some (t191, bt214.1, x198002_6, x198003_6, (wrap64 (1 + t195)), bt214.2))) else (some (t191, x198001_6, x198002_6, (⟨#[120, 32, 121]⟩ : ByteArray), (wrap64 (1 + t195)), t205))))) = some (r1, r2, r3, r4, r5, r6) := H
        have A26 := Aside0.mk A260
        clear A260
        by_cases c27 : t204 = 0
        · rw [if_pos c27] at H
          have c27b0 : (t204 == 0) = true := beq_iff_eq.mpr c27
          have c27b1 : (t204 != 0) = false := bne_eq_false_iff_eq.mpr c27
          clear c27
          obtain ⟨y206, hy206⟩ : ∃ y_ : List ByteArray, y_ = (([(⟨#[]⟩ : ByteArray), (⟨#[65]⟩ : ByteArray), (⟨#[97, 98, 99, 100, 101, 102, 103, 104, 105, 106, 107, 108, 109]⟩ : ByteArray)] : List ByteArray)) := ⟨_, rfl⟩
          replace H : ((spec_l20Rd_pick.f kj6 s0_0 t205 3).bind fun bt209 => (if 0 ≤ bt209.1 then (if bt209.1 < (y206.length : Int) then (some (rdOf ByteArray.empty y206 bt209.1, x198001_6, x198002_6, x198003_6, (wrap64 (1 + t195)), bt209.2)) else (none)) else (none))) = some (r1, r2, r3, r4, r5, r6) := by first | (rw [hy206]; with_reducible exact H) | (have H2_ := (Option.bind_some _ _).symm.trans H; rw [hy206]; with_reducible exact H2_) | (have H2_ := (Option.bind_some _ _).symm.trans H; with_reducible exact H2_) | with_reducible exact H | (rw [hy206]; exact H) | exact H
          have Ny206 := Aside0.mk hy206
          clear hy206
          replace H := Option.bind_eq_some_iff.mp H
          obtain ⟨⟨t209, t210⟩, A280, H⟩ := H
          replace H : (if 0 ≤ t209 then (if t209 < (y206.length : Int) then (some (rdOf ByteArray.empty y206 t209, x198001_6, x198002_6, x198003_6, (wrap64 (1 + t195)), t210)) else (none)) else (none)) = some (r1, r2, r3, r4, r5, r6) := H
          have A28 := Aside0.mk A280
          clear A280
          by_cases c29 : 0 ≤ t209
          · rw [if_pos c29] at H
            have c29b0 : decide (0 ≤ t209) = true := decide_eq_true c29
            clear c29
            by_cases c30 : t209 < (y206.length : Int)
            · rw [if_pos c30] at H
              have c30b0 : decide (t209 < (y206.length : Int)) = true := decide_eq_true c30
              clear c30
              simp only [Option.some.injEq, Prod.mk.injEq] at H
              obtain ⟨rfl, rfl, rfl, rfl, rfl, rfl⟩ := H
              go_wp2_with (first | ((with_reducible refine gate_callee (f := 78) rfl ?_); refine goesL_ (some 24) rfl rfl Try.func78 (z_0) rfl #[.pointer (some ⟨g, 0, none⟩), .int .i64 a1] rfl (z_11) ?_; (with_reducible refine (spec_l20Rd_odd.calls kj6 g s0_0 x1001_6 a1 true t203 w0 _ ?side1 ?side2 A24.out).mono ?_); (case side1 => exact z_37); (case side2 => exact z_38); rintro e w31 ⟨rfl, hi, hb, hk⟩; refine ⟨_, rfl, ?_⟩; have n0_ := Aside0.mk (KeepBut.blk hk (g' := gb190) (o := .cells #[.string (⟨#[]⟩ : ByteArray), .int .i64 0, .int .i64 0, .string (⟨#[]⟩ : ByteArray), .int .i64 0] 26 (0, 0)) (z_34) NB190_0.out (z_9)); have n1_ := Aside0.mk (KeepBut.blk hk (g' := gb197) (o := .cells #[.string t191, .int .i64 x198001_6, .int .i64 x198002_6, .string x198003_6, .int .i64 (wrap64 (1 + t195))] 26 (0, 0)) (z_40) NB197_0.out (z_9)); have n2_ := Aside0.mk (KeepBut.trans (z_39) hk (.inl rfl)); have n3_ := Aside0.mk (hb); have n4_ := Aside0.mk (hi); clear BK190; clear BK197; clear HK; clear HB; clear HI0; have BK190 := n0_; have BK197 := n1_; have HK := n2_; have HB := n3_; have HI0 := n4_; clear n0_ n1_ n2_ n3_ n4_; (try clear hb); (try clear hb2); (try clear hk); (try clear hi)) | ((with_reducible refine gate_callee (f := 69) rfl ?_); refine goesL_ (some 26) rfl rfl Try.func69 (z_0) rfl #[.pointer (some ⟨g, 0, none⟩), .int .i64 4] rfl (z_11) ?_; (with_reducible refine (spec_l20Rd_pick.calls kj6 g s0_0 t203 4 t204 t205 w0 _ ?side1 ?side2 A26.out).mono ?_); (case side1 => exact z_37); (case side2 => exact z_38); rintro e w32 ⟨rfl, hi, hb, hk⟩; refine ⟨_, rfl, ?_⟩; have n0_ := Aside0.mk (KeepBut.blk hk (g' := gb190) (o := .cells #[.string (⟨#[]⟩ : ByteArray), .int .i64 0, .int .i64 0, .string (⟨#[]⟩ : ByteArray), .int .i64 0] 26 (0, 0)) (z_34) NB190_0.out (z_9)); have n1_ := Aside0.mk (KeepBut.blk hk (g' := gb197) (o := .cells #[.string t191, .int .i64 x198001_6, .int .i64 x198002_6, .string x198003_6, .int .i64 (wrap64 (1 + t195))] 26 (0, 0)) (z_40) NB197_0.out (z_9)); have n2_ := Aside0.mk (KeepBut.trans (z_39) hk (.inl rfl)); have n3_ := Aside0.mk (hb); have n4_ := Aside0.mk (hi); clear BK190; clear BK197; clear HK; clear HB; clear HI0; have BK190 := n0_; have BK197 := n1_; have HK := n2_; have HB := n3_; have HI0 := n4_; clear n0_ n1_ n2_ n3_ n4_; (try clear hb); (try clear hb2); (try clear hk); (try clear hi)) | ((with_reducible refine gate_dst (N := 30) rfl ?_); refine Kd.R_lit Kd.string _ 9 ?hg (N := 30) ?hd (xs := ([(⟨#[]⟩ : ByteArray), (⟨#[65]⟩ : ByteArray), (⟨#[97, 98, 99, 100, 101, 102, 103, 104, 105, 106, 107, 108, 109]⟩ : ByteArray)] : List ByteArray)) (inner := [.string (⟨#[]⟩ : ByteArray), .string (⟨#[65]⟩ : ByteArray), .string (⟨#[97, 98, 99, 100, 101, 102, 103, 104, 105, 106, 107, 108, 109]⟩ : ByteArray)]) (ok := fun _ => True) (okp := fun _ => True) ?hr ?hp (fun _ hk => hk) trivial (Below.refl _ _) (Nat.le_refl _) (z_9) ?_; (case hd => rfl); (case hg => rfl); (case hr => exact z_6); (case hp => exact (Reps.one (show Kd.M Kd.string _ _ _ (⟨#[]⟩ : ByteArray) [.string (⟨#[]⟩ : ByteArray)] from rfl) (Reps.one (show Kd.M Kd.string _ _ _ (⟨#[65]⟩ : ByteArray) [.string (⟨#[65]⟩ : ByteArray)] from rfl) (Reps.one (show Kd.M Kd.string _ _ _ (⟨#[97, 98, 99, 100, 101, 102, 103, 104, 105, 106, 107, 108, 109]⟩ : ByteArray) [.string (⟨#[97, 98, 99, 100, 101, 102, 103, 104, 105, 106, 107, 108, 109]⟩ : ByteArray)] from rfl) (Reps.none _ _))))); intro v207 w33 ho34 hb hg_ hnew_; clear hg_ hnew_; (first | rw [← Ny206.out] at ho34 | (simp only [Int.reduceToNat] at ho34; rw [← Ny206.out] at ho34)); have n0_ := Aside0.mk (Kd.R_lower ho34 (keep_size (w := w) (g := g) (row := none) (z_39))); have n1_ := Aside0.mk (blk_below (g := gb190) (o := .cells #[.string (⟨#[]⟩ : ByteArray), .int .i64 0, .int .i64 0, .string (⟨#[]⟩ : ByteArray), .int .i64 0] 26 (0, 0)) (z_34) hb); have n2_ := Aside0.mk (blk_below (g := gb197) (o := .cells #[.string t191, .int .i64 x198001_6, .int .i64 x198002_6, .string x198003_6, .int .i64 (wrap64 (1 + t195))] 26 (0, 0)) (z_40) hb); have n3_ := Aside0.mk (IsS96.below (z_37) hb); have n4_ := Aside0.mk (KeepBut.trans (z_39) (KeepBut.of_below hb g none) (.inl rfl)); have n5_ := Aside0.mk (below_step (z_38) hb); clear BK190; clear BK197; clear HI0; clear HK; clear HB; have HO208 := n0_; have BK190 := n1_; have BK197 := n2_; have HI0 := n3_; have HK := n4_; have HB := n5_; clear n0_ n1_ n2_ n3_ n4_ n5_; clear hb ho34) | ((with_reducible refine gate_callee (f := 69) rfl ?_); refine goesL_ (some 32) rfl rfl Try.func69 (z_0) rfl #[.pointer (some ⟨g, 0, none⟩), .int .i64 3] rfl (z_11) ?_; (with_reducible refine (spec_l20Rd_pick.calls kj6 g s0_0 t205 3 t209 t210 w0 _ ?side1 ?side2 A28.out).mono ?_); (case side1 => exact z_37); (case side2 => exact z_38); rintro e w35 ⟨rfl, hi, hb, hk⟩; refine ⟨_, rfl, ?_⟩; have n0_ := Aside0.mk (KeepBut.blk hk (g' := gb190) (o := .cells #[.string (⟨#[]⟩ : ByteArray), .int .i64 0, .int .i64 0, .string (⟨#[]⟩ : ByteArray), .int .i64 0] 26 (0, 0)) (z_34) NB190_0.out (z_9)); have n1_ := Aside0.mk (KeepBut.blk hk (g' := gb197) (o := .cells #[.string t191, .int .i64 x198001_6, .int .i64 x198002_6, .string x198003_6, .int .i64 (wrap64 (1 + t195))] 26 (0, 0)) (z_40) NB197_0.out (z_9)); have n2_ := Aside0.mk (Kd.R_mono (Kd.R_keep (IsS96.apart (show IsS96 w0 _ g s0_0 t205 from z_37) (by (with_reducible repeat (first | apply Kd.R_alloc | apply Kd.R_drewN | apply Kd.R_drew)); exact HO208.out) (z_3)) hk (fun _ h => h.2)) (fun _ h => h.1)); have n3_ := Aside0.mk (KeepBut.trans (z_39) hk (.inl rfl)); have n4_ := Aside0.mk (hb); have n5_ := Aside0.mk (hi); clear BK190; clear BK197; clear HO208; clear HK; clear HB; clear HI0; have BK190 := n0_; have BK197 := n1_; have HO208 := n2_; have HK := n3_; have HB := n4_; have HI0 := n5_; clear n0_ n1_ n2_ n3_ n4_ n5_; (try clear hb); (try clear hb2); (try clear hk); (try clear hi); obtain ⟨Ao36, co36, eo36⟩ := Kd.R_slice HO208.out; subst eo36; have p211 : 0 ≤ (t209 : Int) := of_decide_eq_true (z_4); have q211 : t209 < (y206.length : Int) := of_decide_eq_true (z_4); obtain ⟨ad211, e211, hx211_0⟩ := Kd.at_string (Kd.R_reads' HO208.out).2.2 t209 p211 q211; cases e211; replace p211 := eq_true p211; replace q211 := eq_true q211; have hnb37 := NB197_190.out; have hnc37 := NB190_197.out; have hnb38 := NB197_0.out; have hnc38 := NB0_197.out; have hcz39_0 : w35.cell? ⟨gb197, 0, none⟩ = some (.string t191) := (blk_cell BK197.out 0).trans rfl; have hcz39_1 : w35.cell? ⟨gb197, 1, none⟩ = some (.int .i64 x198001_6) := (blk_cell BK197.out 1).trans rfl; have hcz39_2 : w35.cell? ⟨gb197, 2, none⟩ = some (.int .i64 x198002_6) := (blk_cell BK197.out 2).trans rfl; have hcz39_3 : w35.cell? ⟨gb197, 3, none⟩ = some (.string x198003_6) := (blk_cell BK197.out 3).trans rfl; have hcz39_4 : w35.cell? ⟨gb197, 4, none⟩ = some (.int .i64 (wrap64 (1 + t195))) := (blk_cell BK197.out 4).trans rfl; have hfz39_0 := blk_frozen BK197.out 0; have hfz39_1 := blk_frozen BK197.out 1; have hfz39_2 := blk_frozen BK197.out 2; have hfz39_3 := blk_frozen BK197.out 3; have hfz39_4 := blk_frozen BK197.out 4; have hnb40 := NB190_0.out; have hnc40 := NB0_190.out; have hcz41_0 : w35.cell? ⟨gb190, 0, none⟩ = some (.string (⟨#[]⟩ : ByteArray)) := (blk_cell BK190.out 0).trans rfl; have hcz41_1 : w35.cell? ⟨gb190, 1, none⟩ = some (.int .i64 0) := (blk_cell BK190.out 1).trans rfl; have hcz41_2 : w35.cell? ⟨gb190, 2, none⟩ = some (.int .i64 0) := (blk_cell BK190.out 2).trans rfl; have hcz41_3 : w35.cell? ⟨gb190, 3, none⟩ = some (.string (⟨#[]⟩ : ByteArray)) := (blk_cell BK190.out 3).trans rfl; have hcz41_4 : w35.cell? ⟨gb190, 4, none⟩ = some (.int .i64 0) := (blk_cell BK190.out 4).trans rfl; have hfz41_0 := blk_frozen BK190.out 0; have hfz41_1 := blk_frozen BK190.out 1; have hfz41_2 := blk_frozen BK190.out 2; have hfz41_3 := blk_frozen BK190.out 3; have hfz41_4 := blk_frozen BK190.out 4))
              refine bodyPost_ret (results_cell_row rfl _ _ gb190 26 #[.string (rdOf ByteArray.empty y206 t209), .int .i64 x198001_6, .int .i64 x198002_6, .string x198003_6, .int .i64 (wrap64 (1 + t195))] (0, 0) _ rfl (by (with_reducible repeat (first | refine blk_drewN ?_ _ | refine blk_drew ?_ | refine blk_alloc ?_ _)); refine blk_put (cs := #[.string (rdOf ByteArray.empty y206 t209), .int .i64 x198001_6, .int .i64 x198002_6, .string x198003_6, .int .i64 0]) ?_ 4 _ rfl; (with_reducible repeat (first | refine blk_drewN ?_ _ | refine blk_drew ?_ | refine blk_alloc ?_ _)); refine blk_put (cs := #[.string (rdOf ByteArray.empty y206 t209), .int .i64 x198001_6, .int .i64 x198002_6, .string (⟨#[]⟩ : ByteArray), .int .i64 0]) ?_ 3 _ rfl; (with_reducible repeat (first | refine blk_drewN ?_ _ | refine blk_drew ?_ | refine blk_alloc ?_ _)); refine blk_put (cs := #[.string (rdOf ByteArray.empty y206 t209), .int .i64 x198001_6, .int .i64 0, .string (⟨#[]⟩ : ByteArray), .int .i64 0]) ?_ 2 _ rfl; (with_reducible repeat (first | refine blk_drewN ?_ _ | refine blk_drew ?_ | refine blk_alloc ?_ _)); refine blk_put (cs := #[.string (rdOf ByteArray.empty y206 t209), .int .i64 0, .int .i64 0, .string (⟨#[]⟩ : ByteArray), .int .i64 0]) ?_ 1 _ rfl; (with_reducible repeat (first | refine blk_drewN ?_ _ | refine blk_drew ?_ | refine blk_alloc ?_ _)); refine blk_put (cs := #[.string (⟨#[]⟩ : ByteArray), .int .i64 0, .int .i64 0, .string (⟨#[]⟩ : ByteArray), .int .i64 0]) ?_ 0 _ rfl; (with_reducible repeat (first | refine blk_drewN ?_ _ | refine blk_drew ?_ | refine blk_alloc ?_ _)); refine blk_far ?_ NB190_197.out _; (with_reducible repeat (first | refine blk_drewN ?_ _ | refine blk_drew ?_ | refine blk_alloc ?_ _)); exact BK190.out) Try.underlying26 rfl (z_0)) rfl ?_
              exact ⟨z_10, z_37, z_38, z_39⟩
            · rw [if_neg c30] at H
              exact absurd H (z_9)
          · rw [if_neg c29] at H
            exact absurd H (z_9)
        · rw [if_neg c27] at H
          have c27b0 : (t204 == 0) = false := beq_eq_false_iff_ne.mpr c27
          have c27b1 : (t204 != 0) = true := bne_iff_ne.mpr c27
          by_cases c42 : t204 = 1
          · rw [if_pos c42] at H
            have c42b0 : (t204 == 1) = true := beq_iff_eq.mpr c42
            have c42b1 : (t204 != 1) = false := bne_eq_false_iff_eq.mpr c42
            clear c42
            replace H := Option.bind_eq_some_iff.mp H
            obtain ⟨⟨t212, t213⟩, A430, H⟩ := H
            replace H : (some (t191, x198001_6, x198002_6, x198003_6, wrap64 (t212 * 51), t213)) = some (r1, r2, r3, r4, r5, r6) := H
            have A43 := Aside0.mk A430
            clear A430
            simp only [Option.some.injEq, Prod.mk.injEq] at H
            obtain ⟨rfl, rfl, rfl, rfl, rfl, rfl⟩ := H
            go_wp2_with (first | ((with_reducible refine gate_callee (f := 78) rfl ?_); refine goesL_ (some 24) rfl rfl Try.func78 (z_0) rfl #[.pointer (some ⟨g, 0, none⟩), .int .i64 a1] rfl (z_11) ?_; (with_reducible refine (spec_l20Rd_odd.calls kj6 g s0_0 x1001_6 a1 true t203 w0 _ ?side1 ?side2 A24.out).mono ?_); (case side1 => exact z_37); (case side2 => exact z_38); rintro e w44 ⟨rfl, hi, hb, hk⟩; refine ⟨_, rfl, ?_⟩; have n0_ := Aside0.mk (KeepBut.blk hk (g' := gb190) (o := .cells #[.string (⟨#[]⟩ : ByteArray), .int .i64 0, .int .i64 0, .string (⟨#[]⟩ : ByteArray), .int .i64 0] 26 (0, 0)) (z_34) NB190_0.out (z_9)); have n1_ := Aside0.mk (KeepBut.blk hk (g' := gb197) (o := .cells #[.string t191, .int .i64 x198001_6, .int .i64 x198002_6, .string x198003_6, .int .i64 (wrap64 (1 + t195))] 26 (0, 0)) (z_40) NB197_0.out (z_9)); have n2_ := Aside0.mk (KeepBut.trans (z_39) hk (.inl rfl)); have n3_ := Aside0.mk (hb); have n4_ := Aside0.mk (hi); clear BK190; clear BK197; clear HK; clear HB; clear HI0; have BK190 := n0_; have BK197 := n1_; have HK := n2_; have HB := n3_; have HI0 := n4_; clear n0_ n1_ n2_ n3_ n4_; (try clear hb); (try clear hb2); (try clear hk); (try clear hi)) | ((with_reducible refine gate_callee (f := 69) rfl ?_); refine goesL_ (some 26) rfl rfl Try.func69 (z_0) rfl #[.pointer (some ⟨g, 0, none⟩), .int .i64 4] rfl (z_11) ?_; (with_reducible refine (spec_l20Rd_pick.calls kj6 g s0_0 t203 4 t204 t205 w0 _ ?side1 ?side2 A26.out).mono ?_); (case side1 => exact z_37); (case side2 => exact z_38); rintro e w45 ⟨rfl, hi, hb, hk⟩; refine ⟨_, rfl, ?_⟩; have n0_ := Aside0.mk (KeepBut.blk hk (g' := gb190) (o := .cells #[.string (⟨#[]⟩ : ByteArray), .int .i64 0, .int .i64 0, .string (⟨#[]⟩ : ByteArray), .int .i64 0] 26 (0, 0)) (z_34) NB190_0.out (z_9)); have n1_ := Aside0.mk (KeepBut.blk hk (g' := gb197) (o := .cells #[.string t191, .int .i64 x198001_6, .int .i64 x198002_6, .string x198003_6, .int .i64 (wrap64 (1 + t195))] 26 (0, 0)) (z_40) NB197_0.out (z_9)); have n2_ := Aside0.mk (KeepBut.trans (z_39) hk (.inl rfl)); have n3_ := Aside0.mk (hb); have n4_ := Aside0.mk (hi); clear BK190; clear BK197; clear HK; clear HB; clear HI0; have BK190 := n0_; have BK197 := n1_; have HK := n2_; have HB := n3_; have HI0 := n4_; clear n0_ n1_ n2_ n3_ n4_; (try clear hb); (try clear hb2); (try clear hk); (try clear hi)) | ((with_reducible refine gate_callee (f := 69) rfl ?_); refine goesL_ (some 39) rfl rfl Try.func69 (z_0) rfl #[.pointer (some ⟨g, 0, none⟩), .int .i64 2] rfl (z_11) ?_; (with_reducible refine (spec_l20Rd_pick.calls kj6 g s0_0 t205 2 t212 t213 w0 _ ?side1 ?side2 A43.out).mono ?_); (case side1 => exact z_37); (case side2 => exact z_38); rintro e w46 ⟨rfl, hi, hb, hk⟩; refine ⟨_, rfl, ?_⟩; have n0_ := Aside0.mk (KeepBut.blk hk (g' := gb190) (o := .cells #[.string (⟨#[]⟩ : ByteArray), .int .i64 0, .int .i64 0, .string (⟨#[]⟩ : ByteArray), .int .i64 0] 26 (0, 0)) (z_34) NB190_0.out (z_9)); have n1_ := Aside0.mk (KeepBut.blk hk (g' := gb197) (o := .cells #[.string t191, .int .i64 x198001_6, .int .i64 x198002_6, .string x198003_6, .int .i64 (wrap64 (1 + t195))] 26 (0, 0)) (z_40) NB197_0.out (z_9)); have n2_ := Aside0.mk (KeepBut.trans (z_39) hk (.inl rfl)); have n3_ := Aside0.mk (hb); have n4_ := Aside0.mk (hi); clear BK190; clear BK197; clear HK; clear HB; clear HI0; have BK190 := n0_; have BK197 := n1_; have HK := n2_; have HB := n3_; have HI0 := n4_; clear n0_ n1_ n2_ n3_ n4_; (try clear hb); (try clear hb2); (try clear hk); (try clear hi); have hnb47 := NB197_190.out; have hnc47 := NB190_197.out; have hnb48 := NB197_0.out; have hnc48 := NB0_197.out; have hcz49_0 : w46.cell? ⟨gb197, 0, none⟩ = some (.string t191) := (blk_cell BK197.out 0).trans rfl; have hcz49_1 : w46.cell? ⟨gb197, 1, none⟩ = some (.int .i64 x198001_6) := (blk_cell BK197.out 1).trans rfl; have hcz49_2 : w46.cell? ⟨gb197, 2, none⟩ = some (.int .i64 x198002_6) := (blk_cell BK197.out 2).trans rfl; have hcz49_3 : w46.cell? ⟨gb197, 3, none⟩ = some (.string x198003_6) := (blk_cell BK197.out 3).trans rfl; have hcz49_4 : w46.cell? ⟨gb197, 4, none⟩ = some (.int .i64 (wrap64 (1 + t195))) := (blk_cell BK197.out 4).trans rfl; have hfz49_0 := blk_frozen BK197.out 0; have hfz49_1 := blk_frozen BK197.out 1; have hfz49_2 := blk_frozen BK197.out 2; have hfz49_3 := blk_frozen BK197.out 3; have hfz49_4 := blk_frozen BK197.out 4; have hnb50 := NB190_0.out; have hnc50 := NB0_190.out; have hcz51_0 : w46.cell? ⟨gb190, 0, none⟩ = some (.string (⟨#[]⟩ : ByteArray)) := (blk_cell BK190.out 0).trans rfl; have hcz51_1 : w46.cell? ⟨gb190, 1, none⟩ = some (.int .i64 0) := (blk_cell BK190.out 1).trans rfl; have hcz51_2 : w46.cell? ⟨gb190, 2, none⟩ = some (.int .i64 0) := (blk_cell BK190.out 2).trans rfl; have hcz51_3 : w46.cell? ⟨gb190, 3, none⟩ = some (.string (⟨#[]⟩ : ByteArray)) := (blk_cell BK190.out 3).trans rfl; have hcz51_4 : w46.cell? ⟨gb190, 4, none⟩ = some (.int .i64 0) := (blk_cell BK190.out 4).trans rfl; have hfz51_0 := blk_frozen BK190.out 0; have hfz51_1 := blk_frozen BK190.out 1; have hfz51_2 := blk_frozen BK190.out 2; have hfz51_3 := blk_frozen BK190.out 3; have hfz51_4 := blk_frozen BK190.out 4))
            refine bodyPost_ret (results_cell_row rfl _ _ gb190 26 #[.string t191, .int .i64 x198001_6, .int .i64 x198002_6, .string x198003_6, .int .i64 (wrap64 (t212 * 51))] (0, 0) _ rfl (by (with_reducible repeat (first | refine blk_drewN ?_ _ | refine blk_drew ?_ | refine blk_alloc ?_ _)); refine blk_put (cs := #[.string t191, .int .i64 x198001_6, .int .i64 x198002_6, .string x198003_6, .int .i64 0]) ?_ 4 _ rfl; (with_reducible repeat (first | refine blk_drewN ?_ _ | refine blk_drew ?_ | refine blk_alloc ?_ _)); refine blk_put (cs := #[.string t191, .int .i64 x198001_6, .int .i64 x198002_6, .string (⟨#[]⟩ : ByteArray), .int .i64 0]) ?_ 3 _ rfl; (with_reducible repeat (first | refine blk_drewN ?_ _ | refine blk_drew ?_ | refine blk_alloc ?_ _)); refine blk_put (cs := #[.string t191, .int .i64 x198001_6, .int .i64 0, .string (⟨#[]⟩ : ByteArray), .int .i64 0]) ?_ 2 _ rfl; (with_reducible repeat (first | refine blk_drewN ?_ _ | refine blk_drew ?_ | refine blk_alloc ?_ _)); refine blk_put (cs := #[.string t191, .int .i64 0, .int .i64 0, .string (⟨#[]⟩ : ByteArray), .int .i64 0]) ?_ 1 _ rfl; (with_reducible repeat (first | refine blk_drewN ?_ _ | refine blk_drew ?_ | refine blk_alloc ?_ _)); refine blk_put (cs := #[.string (⟨#[]⟩ : ByteArray), .int .i64 0, .int .i64 0, .string (⟨#[]⟩ : ByteArray), .int .i64 0]) ?_ 0 _ rfl; (with_reducible repeat (first | refine blk_drewN ?_ _ | refine blk_drew ?_ | refine blk_alloc ?_ _)); refine blk_far ?_ NB190_197.out _; (with_reducible repeat (first | refine blk_drewN ?_ _ | refine blk_drew ?_ | refine blk_alloc ?_ _)); exact BK190.out) Try.underlying26 rfl (z_0)) rfl ?_
            exact ⟨z_10, z_37, z_38, z_39⟩
          · rw [if_neg c42] at H
            have c42b0 : (t204 == 1) = false := beq_eq_false_iff_ne.mpr c42
            have c42b1 : (t204 != 1) = true := bne_iff_ne.mpr c42
            by_cases c52 : t204 = 2
            · rw [if_pos c52] at H
              have c52b0 : (t204 == 2) = true := beq_iff_eq.mpr c52
              have c52b1 : (t204 != 2) = false := bne_eq_false_iff_eq.mpr c52
              clear c52
              replace H := Option.bind_eq_some_iff.mp H
              obtain ⟨⟨t214, t215⟩, A530, H⟩ := H
              replace H : (some (t191, t214, x198002_6, x198003_6, (wrap64 (1 + t195)), t215)) = some (r1, r2, r3, r4, r5, r6) := H
              have A53 := Aside0.mk A530
              clear A530
              simp only [Option.some.injEq, Prod.mk.injEq] at H
              obtain ⟨rfl, rfl, rfl, rfl, rfl, rfl⟩ := H
              go_wp2_with (first | ((with_reducible refine gate_callee (f := 78) rfl ?_); refine goesL_ (some 24) rfl rfl Try.func78 (z_0) rfl #[.pointer (some ⟨g, 0, none⟩), .int .i64 a1] rfl (z_11) ?_; (with_reducible refine (spec_l20Rd_odd.calls kj6 g s0_0 x1001_6 a1 true t203 w0 _ ?side1 ?side2 A24.out).mono ?_); (case side1 => exact z_37); (case side2 => exact z_38); rintro e w54 ⟨rfl, hi, hb, hk⟩; refine ⟨_, rfl, ?_⟩; have n0_ := Aside0.mk (KeepBut.blk hk (g' := gb190) (o := .cells #[.string (⟨#[]⟩ : ByteArray), .int .i64 0, .int .i64 0, .string (⟨#[]⟩ : ByteArray), .int .i64 0] 26 (0, 0)) (z_34) NB190_0.out (z_9)); have n1_ := Aside0.mk (KeepBut.blk hk (g' := gb197) (o := .cells #[.string t191, .int .i64 x198001_6, .int .i64 x198002_6, .string x198003_6, .int .i64 (wrap64 (1 + t195))] 26 (0, 0)) (z_40) NB197_0.out (z_9)); have n2_ := Aside0.mk (KeepBut.trans (z_39) hk (.inl rfl)); have n3_ := Aside0.mk (hb); have n4_ := Aside0.mk (hi); clear BK190; clear BK197; clear HK; clear HB; clear HI0; have BK190 := n0_; have BK197 := n1_; have HK := n2_; have HB := n3_; have HI0 := n4_; clear n0_ n1_ n2_ n3_ n4_; (try clear hb); (try clear hb2); (try clear hk); (try clear hi)) | ((with_reducible refine gate_callee (f := 69) rfl ?_); refine goesL_ (some 26) rfl rfl Try.func69 (z_0) rfl #[.pointer (some ⟨g, 0, none⟩), .int .i64 4] rfl (z_11) ?_; (with_reducible refine (spec_l20Rd_pick.calls kj6 g s0_0 t203 4 t204 t205 w0 _ ?side1 ?side2 A26.out).mono ?_); (case side1 => exact z_37); (case side2 => exact z_38); rintro e w55 ⟨rfl, hi, hb, hk⟩; refine ⟨_, rfl, ?_⟩; have n0_ := Aside0.mk (KeepBut.blk hk (g' := gb190) (o := .cells #[.string (⟨#[]⟩ : ByteArray), .int .i64 0, .int .i64 0, .string (⟨#[]⟩ : ByteArray), .int .i64 0] 26 (0, 0)) (z_34) NB190_0.out (z_9)); have n1_ := Aside0.mk (KeepBut.blk hk (g' := gb197) (o := .cells #[.string t191, .int .i64 x198001_6, .int .i64 x198002_6, .string x198003_6, .int .i64 (wrap64 (1 + t195))] 26 (0, 0)) (z_40) NB197_0.out (z_9)); have n2_ := Aside0.mk (KeepBut.trans (z_39) hk (.inl rfl)); have n3_ := Aside0.mk (hb); have n4_ := Aside0.mk (hi); clear BK190; clear BK197; clear HK; clear HB; clear HI0; have BK190 := n0_; have BK197 := n1_; have HK := n2_; have HB := n3_; have HI0 := n4_; clear n0_ n1_ n2_ n3_ n4_; (try clear hb); (try clear hb2); (try clear hk); (try clear hi)) | ((with_reducible refine gate_callee (f := 69) rfl ?_); refine goesL_ (some 45) rfl rfl Try.func69 (z_0) rfl #[.pointer (some ⟨g, 0, none⟩), .int .i64 5] rfl (z_11) ?_; (with_reducible refine (spec_l20Rd_pick.calls kj6 g s0_0 t205 5 t214 t215 w0 _ ?side1 ?side2 A53.out).mono ?_); (case side1 => exact z_37); (case side2 => exact z_38); rintro e w56 ⟨rfl, hi, hb, hk⟩; refine ⟨_, rfl, ?_⟩; have n0_ := Aside0.mk (KeepBut.blk hk (g' := gb190) (o := .cells #[.string (⟨#[]⟩ : ByteArray), .int .i64 0, .int .i64 0, .string (⟨#[]⟩ : ByteArray), .int .i64 0] 26 (0, 0)) (z_34) NB190_0.out (z_9)); have n1_ := Aside0.mk (KeepBut.blk hk (g' := gb197) (o := .cells #[.string t191, .int .i64 x198001_6, .int .i64 x198002_6, .string x198003_6, .int .i64 (wrap64 (1 + t195))] 26 (0, 0)) (z_40) NB197_0.out (z_9)); have n2_ := Aside0.mk (KeepBut.trans (z_39) hk (.inl rfl)); have n3_ := Aside0.mk (hb); have n4_ := Aside0.mk (hi); clear BK190; clear BK197; clear HK; clear HB; clear HI0; have BK190 := n0_; have BK197 := n1_; have HK := n2_; have HB := n3_; have HI0 := n4_; clear n0_ n1_ n2_ n3_ n4_; (try clear hb); (try clear hb2); (try clear hk); (try clear hi); have hnb57 := NB197_190.out; have hnc57 := NB190_197.out; have hnb58 := NB197_0.out; have hnc58 := NB0_197.out; have hcz59_0 : w56.cell? ⟨gb197, 0, none⟩ = some (.string t191) := (blk_cell BK197.out 0).trans rfl; have hcz59_1 : w56.cell? ⟨gb197, 1, none⟩ = some (.int .i64 x198001_6) := (blk_cell BK197.out 1).trans rfl; have hcz59_2 : w56.cell? ⟨gb197, 2, none⟩ = some (.int .i64 x198002_6) := (blk_cell BK197.out 2).trans rfl; have hcz59_3 : w56.cell? ⟨gb197, 3, none⟩ = some (.string x198003_6) := (blk_cell BK197.out 3).trans rfl; have hcz59_4 : w56.cell? ⟨gb197, 4, none⟩ = some (.int .i64 (wrap64 (1 + t195))) := (blk_cell BK197.out 4).trans rfl; have hfz59_0 := blk_frozen BK197.out 0; have hfz59_1 := blk_frozen BK197.out 1; have hfz59_2 := blk_frozen BK197.out 2; have hfz59_3 := blk_frozen BK197.out 3; have hfz59_4 := blk_frozen BK197.out 4; have hnb60 := NB190_0.out; have hnc60 := NB0_190.out; have hcz61_0 : w56.cell? ⟨gb190, 0, none⟩ = some (.string (⟨#[]⟩ : ByteArray)) := (blk_cell BK190.out 0).trans rfl; have hcz61_1 : w56.cell? ⟨gb190, 1, none⟩ = some (.int .i64 0) := (blk_cell BK190.out 1).trans rfl; have hcz61_2 : w56.cell? ⟨gb190, 2, none⟩ = some (.int .i64 0) := (blk_cell BK190.out 2).trans rfl; have hcz61_3 : w56.cell? ⟨gb190, 3, none⟩ = some (.string (⟨#[]⟩ : ByteArray)) := (blk_cell BK190.out 3).trans rfl; have hcz61_4 : w56.cell? ⟨gb190, 4, none⟩ = some (.int .i64 0) := (blk_cell BK190.out 4).trans rfl; have hfz61_0 := blk_frozen BK190.out 0; have hfz61_1 := blk_frozen BK190.out 1; have hfz61_2 := blk_frozen BK190.out 2; have hfz61_3 := blk_frozen BK190.out 3; have hfz61_4 := blk_frozen BK190.out 4))
              refine bodyPost_ret (results_cell_row rfl _ _ gb190 26 #[.string t191, .int .i64 t214, .int .i64 x198002_6, .string x198003_6, .int .i64 (wrap64 (1 + t195))] (0, 0) _ rfl (by (with_reducible repeat (first | refine blk_drewN ?_ _ | refine blk_drew ?_ | refine blk_alloc ?_ _)); refine blk_put (cs := #[.string t191, .int .i64 t214, .int .i64 x198002_6, .string x198003_6, .int .i64 0]) ?_ 4 _ rfl; (with_reducible repeat (first | refine blk_drewN ?_ _ | refine blk_drew ?_ | refine blk_alloc ?_ _)); refine blk_put (cs := #[.string t191, .int .i64 t214, .int .i64 x198002_6, .string (⟨#[]⟩ : ByteArray), .int .i64 0]) ?_ 3 _ rfl; (with_reducible repeat (first | refine blk_drewN ?_ _ | refine blk_drew ?_ | refine blk_alloc ?_ _)); refine blk_put (cs := #[.string t191, .int .i64 t214, .int .i64 0, .string (⟨#[]⟩ : ByteArray), .int .i64 0]) ?_ 2 _ rfl; (with_reducible repeat (first | refine blk_drewN ?_ _ | refine blk_drew ?_ | refine blk_alloc ?_ _)); refine blk_put (cs := #[.string t191, .int .i64 0, .int .i64 0, .string (⟨#[]⟩ : ByteArray), .int .i64 0]) ?_ 1 _ rfl; (with_reducible repeat (first | refine blk_drewN ?_ _ | refine blk_drew ?_ | refine blk_alloc ?_ _)); refine blk_put (cs := #[.string (⟨#[]⟩ : ByteArray), .int .i64 0, .int .i64 0, .string (⟨#[]⟩ : ByteArray), .int .i64 0]) ?_ 0 _ rfl; (with_reducible repeat (first | refine blk_drewN ?_ _ | refine blk_drew ?_ | refine blk_alloc ?_ _)); refine blk_far ?_ NB190_197.out _; (with_reducible repeat (first | refine blk_drewN ?_ _ | refine blk_drew ?_ | refine blk_alloc ?_ _)); exact BK190.out) Try.underlying26 rfl (z_0)) rfl ?_
              exact ⟨z_10, z_37, z_38, z_39⟩
            · rw [if_neg c52] at H
              have c52b0 : (t204 == 2) = false := beq_eq_false_iff_ne.mpr c52
              have c52b1 : (t204 != 2) = true := bne_iff_ne.mpr c52
              simp only [Option.some.injEq, Prod.mk.injEq] at H
              obtain ⟨rfl, rfl, rfl, rfl, rfl, rfl⟩ := H
              go_wp2_with (first | ((with_reducible refine gate_callee (f := 78) rfl ?_); refine goesL_ (some 24) rfl rfl Try.func78 (z_0) rfl #[.pointer (some ⟨g, 0, none⟩), .int .i64 a1] rfl (z_11) ?_; (with_reducible refine (spec_l20Rd_odd.calls kj6 g s0_0 x1001_6 a1 true t203 w0 _ ?side1 ?side2 A24.out).mono ?_); (case side1 => exact z_37); (case side2 => exact z_38); rintro e w62 ⟨rfl, hi, hb, hk⟩; refine ⟨_, rfl, ?_⟩; have n0_ := Aside0.mk (KeepBut.blk hk (g' := gb190) (o := .cells #[.string (⟨#[]⟩ : ByteArray), .int .i64 0, .int .i64 0, .string (⟨#[]⟩ : ByteArray), .int .i64 0] 26 (0, 0)) (z_34) NB190_0.out (z_9)); have n1_ := Aside0.mk (KeepBut.blk hk (g' := gb197) (o := .cells #[.string t191, .int .i64 x198001_6, .int .i64 x198002_6, .string x198003_6, .int .i64 (wrap64 (1 + t195))] 26 (0, 0)) (z_40) NB197_0.out (z_9)); have n2_ := Aside0.mk (KeepBut.trans (z_39) hk (.inl rfl)); have n3_ := Aside0.mk (hb); have n4_ := Aside0.mk (hi); clear BK190; clear BK197; clear HK; clear HB; clear HI0; have BK190 := n0_; have BK197 := n1_; have HK := n2_; have HB := n3_; have HI0 := n4_; clear n0_ n1_ n2_ n3_ n4_; (try clear hb); (try clear hb2); (try clear hk); (try clear hi)) | ((with_reducible refine gate_callee (f := 69) rfl ?_); refine goesL_ (some 26) rfl rfl Try.func69 (z_0) rfl #[.pointer (some ⟨g, 0, none⟩), .int .i64 4] rfl (z_11) ?_; (with_reducible refine (spec_l20Rd_pick.calls kj6 g s0_0 t203 4 t204 t205 w0 _ ?side1 ?side2 A26.out).mono ?_); (case side1 => exact z_37); (case side2 => exact z_38); rintro e w63 ⟨rfl, hi, hb, hk⟩; refine ⟨_, rfl, ?_⟩; have n0_ := Aside0.mk (KeepBut.blk hk (g' := gb190) (o := .cells #[.string (⟨#[]⟩ : ByteArray), .int .i64 0, .int .i64 0, .string (⟨#[]⟩ : ByteArray), .int .i64 0] 26 (0, 0)) (z_34) NB190_0.out (z_9)); have n1_ := Aside0.mk (KeepBut.blk hk (g' := gb197) (o := .cells #[.string t191, .int .i64 x198001_6, .int .i64 x198002_6, .string x198003_6, .int .i64 (wrap64 (1 + t195))] 26 (0, 0)) (z_40) NB197_0.out (z_9)); have n2_ := Aside0.mk (KeepBut.trans (z_39) hk (.inl rfl)); have n3_ := Aside0.mk (hb); have n4_ := Aside0.mk (hi); clear BK190; clear BK197; clear HK; clear HB; clear HI0; have BK190 := n0_; have BK197 := n1_; have HK := n2_; have HB := n3_; have HI0 := n4_; clear n0_ n1_ n2_ n3_ n4_; (try clear hb); (try clear hb2); (try clear hk); (try clear hi); have hnb64 := NB197_190.out; have hnc64 := NB190_197.out; have hnb65 := NB197_0.out; have hnc65 := NB0_197.out; have hcz66_0 : w63.cell? ⟨gb197, 0, none⟩ = some (.string t191) := (blk_cell BK197.out 0).trans rfl; have hcz66_1 : w63.cell? ⟨gb197, 1, none⟩ = some (.int .i64 x198001_6) := (blk_cell BK197.out 1).trans rfl; have hcz66_2 : w63.cell? ⟨gb197, 2, none⟩ = some (.int .i64 x198002_6) := (blk_cell BK197.out 2).trans rfl; have hcz66_3 : w63.cell? ⟨gb197, 3, none⟩ = some (.string x198003_6) := (blk_cell BK197.out 3).trans rfl; have hcz66_4 : w63.cell? ⟨gb197, 4, none⟩ = some (.int .i64 (wrap64 (1 + t195))) := (blk_cell BK197.out 4).trans rfl; have hfz66_0 := blk_frozen BK197.out 0; have hfz66_1 := blk_frozen BK197.out 1; have hfz66_2 := blk_frozen BK197.out 2; have hfz66_3 := blk_frozen BK197.out 3; have hfz66_4 := blk_frozen BK197.out 4; have hnb67 := NB190_0.out; have hnc67 := NB0_190.out; have hcz68_0 : w63.cell? ⟨gb190, 0, none⟩ = some (.string (⟨#[]⟩ : ByteArray)) := (blk_cell BK190.out 0).trans rfl; have hcz68_1 : w63.cell? ⟨gb190, 1, none⟩ = some (.int .i64 0) := (blk_cell BK190.out 1).trans rfl; have hcz68_2 : w63.cell? ⟨gb190, 2, none⟩ = some (.int .i64 0) := (blk_cell BK190.out 2).trans rfl; have hcz68_3 : w63.cell? ⟨gb190, 3, none⟩ = some (.string (⟨#[]⟩ : ByteArray)) := (blk_cell BK190.out 3).trans rfl; have hcz68_4 : w63.cell? ⟨gb190, 4, none⟩ = some (.int .i64 0) := (blk_cell BK190.out 4).trans rfl; have hfz68_0 := blk_frozen BK190.out 0; have hfz68_1 := blk_frozen BK190.out 1; have hfz68_2 := blk_frozen BK190.out 2; have hfz68_3 := blk_frozen BK190.out 3; have hfz68_4 := blk_frozen BK190.out 4))
              refine bodyPost_ret (results_cell_row rfl _ _ gb190 26 #[.string t191, .int .i64 x198001_6, .int .i64 x198002_6, .string (⟨#[120, 32, 121]⟩ : ByteArray), .int .i64 (wrap64 (1 + t195))] (0, 0) _ rfl (by (with_reducible repeat (first | refine blk_drewN ?_ _ | refine blk_drew ?_ | refine blk_alloc ?_ _)); refine blk_put (cs := #[.string t191, .int .i64 x198001_6, .int .i64 x198002_6, .string (⟨#[120, 32, 121]⟩ : ByteArray), .int .i64 0]) ?_ 4 _ rfl; (with_reducible repeat (first | refine blk_drewN ?_ _ | refine blk_drew ?_ | refine blk_alloc ?_ _)); refine blk_put (cs := #[.string t191, .int .i64 x198001_6, .int .i64 x198002_6, .string (⟨#[]⟩ : ByteArray), .int .i64 0]) ?_ 3 _ rfl; (with_reducible repeat (first | refine blk_drewN ?_ _ | refine blk_drew ?_ | refine blk_alloc ?_ _)); refine blk_put (cs := #[.string t191, .int .i64 x198001_6, .int .i64 0, .string (⟨#[]⟩ : ByteArray), .int .i64 0]) ?_ 2 _ rfl; (with_reducible repeat (first | refine blk_drewN ?_ _ | refine blk_drew ?_ | refine blk_alloc ?_ _)); refine blk_put (cs := #[.string t191, .int .i64 0, .int .i64 0, .string (⟨#[]⟩ : ByteArray), .int .i64 0]) ?_ 1 _ rfl; (with_reducible repeat (first | refine blk_drewN ?_ _ | refine blk_drew ?_ | refine blk_alloc ?_ _)); refine blk_put (cs := #[.string (⟨#[]⟩ : ByteArray), .int .i64 0, .int .i64 0, .string (⟨#[]⟩ : ByteArray), .int .i64 0]) ?_ 0 _ rfl; (with_reducible repeat (first | refine blk_drewN ?_ _ | refine blk_drew ?_ | refine blk_alloc ?_ _)); refine blk_far ?_ NB190_197.out _; (with_reducible repeat (first | refine blk_drewN ?_ _ | refine blk_drew ?_ | refine blk_alloc ?_ _)); exact BK190.out) Try.underlying26 rfl (z_0)) rfl ?_
              exact ⟨z_10, z_37, z_38, z_39⟩
      · replace c25 := Bool.eq_false_iff.mpr c25
        subst c25
        rw [if_neg (show ¬ (false = true) by decide)] at H
        simp only [Option.some.injEq, Prod.mk.injEq] at H
        obtain ⟨rfl, rfl, rfl, rfl, rfl, rfl⟩ := H
        go_wp2_with (first | ((with_reducible refine gate_callee (f := 78) rfl ?_); refine goesL_ (some 24) rfl rfl Try.func78 (z_0) rfl #[.pointer (some ⟨g, 0, none⟩), .int .i64 a1] rfl (z_11) ?_; (with_reducible refine (spec_l20Rd_odd.calls kj6 g s0_0 x1001_6 a1 false t203 w0 _ ?side1 ?side2 A24.out).mono ?_); (case side1 => exact z_37); (case side2 => exact z_38); rintro e w69 ⟨rfl, hi, hb, hk⟩; refine ⟨_, rfl, ?_⟩; have n0_ := Aside0.mk (KeepBut.blk hk (g' := gb190) (o := .cells #[.string (⟨#[]⟩ : ByteArray), .int .i64 0, .int .i64 0, .string (⟨#[]⟩ : ByteArray), .int .i64 0] 26 (0, 0)) (z_34) NB190_0.out (z_9)); have n1_ := Aside0.mk (KeepBut.blk hk (g' := gb197) (o := .cells #[.string t191, .int .i64 x198001_6, .int .i64 x198002_6, .string x198003_6, .int .i64 (wrap64 (1 + t195))] 26 (0, 0)) (z_40) NB197_0.out (z_9)); have n2_ := Aside0.mk (KeepBut.trans (z_39) hk (.inl rfl)); have n3_ := Aside0.mk (hb); have n4_ := Aside0.mk (hi); clear BK190; clear BK197; clear HK; clear HB; clear HI0; have BK190 := n0_; have BK197 := n1_; have HK := n2_; have HB := n3_; have HI0 := n4_; clear n0_ n1_ n2_ n3_ n4_; (try clear hb); (try clear hb2); (try clear hk); (try clear hi); have hnb70 := NB197_190.out; have hnc70 := NB190_197.out; have hnb71 := NB197_0.out; have hnc71 := NB0_197.out; have hcz72_0 : w69.cell? ⟨gb197, 0, none⟩ = some (.string t191) := (blk_cell BK197.out 0).trans rfl; have hcz72_1 : w69.cell? ⟨gb197, 1, none⟩ = some (.int .i64 x198001_6) := (blk_cell BK197.out 1).trans rfl; have hcz72_2 : w69.cell? ⟨gb197, 2, none⟩ = some (.int .i64 x198002_6) := (blk_cell BK197.out 2).trans rfl; have hcz72_3 : w69.cell? ⟨gb197, 3, none⟩ = some (.string x198003_6) := (blk_cell BK197.out 3).trans rfl; have hcz72_4 : w69.cell? ⟨gb197, 4, none⟩ = some (.int .i64 (wrap64 (1 + t195))) := (blk_cell BK197.out 4).trans rfl; have hfz72_0 := blk_frozen BK197.out 0; have hfz72_1 := blk_frozen BK197.out 1; have hfz72_2 := blk_frozen BK197.out 2; have hfz72_3 := blk_frozen BK197.out 3; have hfz72_4 := blk_frozen BK197.out 4; have hnb73 := NB190_0.out; have hnc73 := NB0_190.out; have hcz74_0 : w69.cell? ⟨gb190, 0, none⟩ = some (.string (⟨#[]⟩ : ByteArray)) := (blk_cell BK190.out 0).trans rfl; have hcz74_1 : w69.cell? ⟨gb190, 1, none⟩ = some (.int .i64 0) := (blk_cell BK190.out 1).trans rfl; have hcz74_2 : w69.cell? ⟨gb190, 2, none⟩ = some (.int .i64 0) := (blk_cell BK190.out 2).trans rfl; have hcz74_3 : w69.cell? ⟨gb190, 3, none⟩ = some (.string (⟨#[]⟩ : ByteArray)) := (blk_cell BK190.out 3).trans rfl; have hcz74_4 : w69.cell? ⟨gb190, 4, none⟩ = some (.int .i64 0) := (blk_cell BK190.out 4).trans rfl; have hfz74_0 := blk_frozen BK190.out 0; have hfz74_1 := blk_frozen BK190.out 1; have hfz74_2 := blk_frozen BK190.out 2; have hfz74_3 := blk_frozen BK190.out 3; have hfz74_4 := blk_frozen BK190.out 4))
        refine bodyPost_ret (results_cell_row rfl _ _ gb190 26 #[.string t191, .int .i64 x198001_6, .int .i64 x198002_6, .string x198003_6, .int .i64 (wrap64 (1 + t195))] (0, 0) _ rfl (by (with_reducible repeat (first | refine blk_drewN ?_ _ | refine blk_drew ?_ | refine blk_alloc ?_ _)); refine blk_put (cs := #[.string t191, .int .i64 x198001_6, .int .i64 x198002_6, .string x198003_6, .int .i64 0]) ?_ 4 _ rfl; (with_reducible repeat (first | refine blk_drewN ?_ _ | refine blk_drew ?_ | refine blk_alloc ?_ _)); refine blk_put (cs := #[.string t191, .int .i64 x198001_6, .int .i64 x198002_6, .string (⟨#[]⟩ : ByteArray), .int .i64 0]) ?_ 3 _ rfl; (with_reducible repeat (first | refine blk_drewN ?_ _ | refine blk_drew ?_ | refine blk_alloc ?_ _)); refine blk_put (cs := #[.string t191, .int .i64 x198001_6, .int .i64 0, .string (⟨#[]⟩ : ByteArray), .int .i64 0]) ?_ 2 _ rfl; (with_reducible repeat (first | refine blk_drewN ?_ _ | refine blk_drew ?_ | refine blk_alloc ?_ _)); refine blk_put (cs := #[.string t191, .int .i64 0, .int .i64 0, .string (⟨#[]⟩ : ByteArray), .int .i64 0]) ?_ 1 _ rfl; (with_reducible repeat (first | refine blk_drewN ?_ _ | refine blk_drew ?_ | refine blk_alloc ?_ _)); refine blk_put (cs := #[.string (⟨#[]⟩ : ByteArray), .int .i64 0, .int .i64 0, .string (⟨#[]⟩ : ByteArray), .int .i64 0]) ?_ 0 _ rfl; (with_reducible repeat (first | refine blk_drewN ?_ _ | refine blk_drew ?_ | refine blk_alloc ?_ _)); exact BK190.out) Try.underlying26 rfl (z_0)) rfl ?_
        exact ⟨z_10, z_37, z_38, z_39⟩

/-! ### spec_l20Names: function 62 -/
def spec_l20Names.l0 : Nat → Int → List (S26) → List ByteArray → Int → Int → List Int → Int → Option ((List (S26)) × Int)
  | 0, _, _, _, _, _, _, _ => none
  | k + 1, x1, x5, x10, x11, x12, x1000, x1001 => if x12 < x11 then (if 0 ≤ x12 then (if x12 < (x10.length : Int) then ((spec_l20Rd_pick.f k x1000 x1001 3).bind fun bt223 => (if bt223.1 > 0 then ((spec_l20Name.f k x1000 bt223.2 0).bind fun bt225 => (if x5.length < 2513169434916 then (spec_l20Names.l0 k x1 (x5 ++ [(⟨rdOf ByteArray.empty x10 x12, bt225.2.1, bt225.2.2.1, bt225.2.2.2.1, bt225.2.2.2.2.1⟩ : S26)]) x10 x11 (wrap64 (x12 + 1)) x1000 bt225.2.2.2.2.2) else (none))) else (spec_l20Names.l0 k x1 x5 x10 x11 (wrap64 (x12 + 1)) x1000 bt223.2))) else (none)) else (none)) else ((spec_l20Rd_odd.f k x1000 x1001 x1).bind fun bt235 => (if bt235.1 = true then ((spec_l20Name.f k x1000 bt235.2 1).bind fun bt237 => (if x5.length < 2513169434916 then (some ((x5 ++ [(⟨bt237.1, bt237.2.1, bt237.2.2.1, bt237.2.2.2.1, bt237.2.2.2.2.1⟩ : S26)]), bt237.2.2.2.2.2)) else (none))) else (some (x5, bt235.2))))
def spec_l20Names.f (k : Nat) (s0_0 : List Int) (s0_1 : Int) (a1 : Int) : Option ((List (S26)) × Int) := (some (([(⟨#[97]⟩ : ByteArray), (⟨#[98]⟩ : ByteArray), (⟨#[99]⟩ : ByteArray), (⟨#[100, 100]⟩ : ByteArray), (⟨#[101, 101]⟩ : ByteArray), (⟨#[102]⟩ : ByteArray), (⟨#[103, 103]⟩ : ByteArray)] : List ByteArray) : List ByteArray)).bind fun y219 => (spec_l20Names.l0 k a1 (([] : List (S26))) y219 (y219.length : Int) 0 s0_0 s0_1)
theorem spec_l20Names.mono_l : ∀ k, (∀ y0 y1 y2 y3 y4 y5 y6, LeO (spec_l20Names.l0 k y0 y1 y2 y3 y4 y5 y6) (spec_l20Names.l0 (k + 1) y0 y1 y2 y3 y4 y5 y6))
  | 0 => fun _ _ _ _ _ _ _ r h => by simp [spec_l20Names.l0] at h
  | k + 1 => by
    have ih0 := spec_l20Names.mono_l k
    · intro y0 y1 y2 y3 y4 y5 y6
      unfold spec_l20Names.l0
      repeat' first
      | (with_reducible exact ih0 _ _ _ _ _ _ _)
      | (with_reducible exact spec_l20Name.mono _ _ _ _)
      | (with_reducible exact spec_l20Rd_odd.mono _ _ _ _)
      | (with_reducible exact spec_l20Rd_pick.mono _ _ _ _)
      | (with_reducible exact LeO.refl _)
      | (with_reducible exact LeO.none _)
      | (with_reducible refine LeO.ite ?_ ?_)
      | (with_reducible refine LeO.bind ?_ (fun _ => ?_))
      | exact ih0 _ _ _ _ _ _ _
      | exact spec_l20Name.mono _ _ _ _
      | exact spec_l20Rd_odd.mono _ _ _ _
      | exact spec_l20Rd_pick.mono _ _ _ _
      | exact LeO.none _
      | refine LeO.ite ?_ ?_
      | refine LeO.bind ?_ (fun _ => ?_)
theorem spec_l20Names.mono : ∀ a0 a1 a2 k, LeO (spec_l20Names.f k a0 a1 a2) (spec_l20Names.f (k + 1) a0 a1 a2) := by
  intro a0 a1 a2 k
  have ih0 := spec_l20Names.mono_l k
  unfold spec_l20Names.f
  repeat' first
      | (with_reducible exact ih0 _ _ _ _ _ _ _)
      | (with_reducible exact spec_l20Name.mono _ _ _ _)
      | (with_reducible exact spec_l20Rd_odd.mono _ _ _ _)
      | (with_reducible exact spec_l20Rd_pick.mono _ _ _ _)
      | (with_reducible exact LeO.refl _)
      | (with_reducible exact LeO.none _)
      | (with_reducible refine LeO.ite ?_ ?_)
      | (with_reducible refine LeO.bind ?_ (fun _ => ?_))
      | exact ih0 _ _ _ _ _ _ _
      | exact spec_l20Name.mono _ _ _ _
      | exact spec_l20Rd_odd.mono _ _ _ _
      | exact spec_l20Rd_pick.mono _ _ _ _
      | exact LeO.none _
      | refine LeO.ite ?_ ?_
      | refine LeO.bind ?_ (fun _ => ?_)
set_option maxHeartbeats 8000000 in
set_option maxRecDepth 100000 in
theorem spec_l20Names.calls (k : Nat) (g : Nat) (s0_0 : List Int) (s0_1 : Int) (a1 : Int) (r1 : List (S26)) (r2 : Int) (w0 w : World) (hI : IsS96 w0 w g s0_0 s0_1) (hB : Below w0.heap.size w0 w) (h : spec_l20Names.f k s0_0 s0_1 a1 = some (r1, r2)) :
    Calls Try.prog 62 #[.pointer (some ⟨g, 0, none⟩), .int .i64 a1] w fun e w' => ∃ v0_ : Value, e = .returned (v0_) ∧ Kd.R k26 26 w' w.heap.size (fun _ => True) v0_ r1 ∧ IsS96 w0 w' g s0_0 r2 ∧ Below w0.heap.size w0 w' ∧ KeepBut w w' g none := by
  have hu26 := Try.underlying26
  have HI0 := Aside0.mk hI
  have HK := Aside0.mk (KeepBut.refl w g none)
  have HL := Aside0.mk hB.size
  clear hI
  have HW0 := Aside0.mk hB.size
  have HB := Aside0.mk hB
  clear hB
  have H : ((some (([(⟨#[97]⟩ : ByteArray), (⟨#[98]⟩ : ByteArray), (⟨#[99]⟩ : ByteArray), (⟨#[100, 100]⟩ : ByteArray), (⟨#[101, 101]⟩ : ByteArray), (⟨#[102]⟩ : ByteArray), (⟨#[103, 103]⟩ : ByteArray)] : List ByteArray) : List ByteArray)).bind fun y219 => (spec_l20Names.l0 k a1 (([] : List (S26))) y219 (y219.length : Int) 0 s0_0 s0_1)) = some (r1, r2) := h
  clear h
  obtain ⟨y216, hy216⟩ : ∃ y_ : List (S26), y_ = (([] : List (S26))) := ⟨_, rfl⟩
  replace H : ((some (([(⟨#[97]⟩ : ByteArray), (⟨#[98]⟩ : ByteArray), (⟨#[99]⟩ : ByteArray), (⟨#[100, 100]⟩ : ByteArray), (⟨#[101, 101]⟩ : ByteArray), (⟨#[102]⟩ : ByteArray), (⟨#[103, 103]⟩ : ByteArray)] : List ByteArray) : List ByteArray)).bind fun y219 => (spec_l20Names.l0 k a1 y216 y219 (y219.length : Int) 0 s0_0 s0_1)) = some (r1, r2) := by first | (rw [hy216]; with_reducible exact H) | (have H2_ := (Option.bind_some _ _).symm.trans H; rw [hy216]; with_reducible exact H2_) | (have H2_ := (Option.bind_some _ _).symm.trans H; with_reducible exact H2_) | with_reducible exact H | (rw [hy216]; exact H) | exact H
  have Ny216 := Aside0.mk hy216
  clear hy216
  obtain ⟨y219, hy219⟩ : ∃ y_ : List ByteArray, y_ = (([(⟨#[97]⟩ : ByteArray), (⟨#[98]⟩ : ByteArray), (⟨#[99]⟩ : ByteArray), (⟨#[100, 100]⟩ : ByteArray), (⟨#[101, 101]⟩ : ByteArray), (⟨#[102]⟩ : ByteArray), (⟨#[103, 103]⟩ : ByteArray)] : List ByteArray)) := ⟨_, rfl⟩
  replace H : (spec_l20Names.l0 k a1 y216 y219 (y219.length : Int) 0 s0_0 s0_1) = some (r1, r2) := by first | (rw [hy219]; with_reducible exact H) | (have H2_ := (Option.bind_some _ _).symm.trans H; rw [hy219]; with_reducible exact H2_) | (have H2_ := (Option.bind_some _ _).symm.trans H; with_reducible exact H2_) | with_reducible exact H | (rw [hy219]; exact H) | exact H
  have Ny219 := Aside0.mk hy219
  clear hy219
  have H' := Aside0.mk H
  clear H
  go_enter Try.func62, Try.ntmps62
  go_wp2_with (first | ((with_reducible refine gate_dst (N := 9) rfl ?_); refine Kd.R_lit k26 _ 26 ?hg (N := 9) ?hd (xs := ([] : List (S26))) (inner := []) (ok := fun _ => True) (okp := fun _ => True) ?hr ?hp (fun _ hk => hk) trivial (Below.refl _ _) (Nat.le_refl _) (z_9) ?_; (case hd => rfl); (case hg => rfl); (case hr => exact z_6); (case hp => exact (Reps.none _ _)); intro v217 w3 ho4 hb hg_ hnew_; clear hg_ hnew_; (first | rw [← Ny216.out] at ho4 | (simp only [Int.reduceToNat] at ho4; rw [← Ny216.out] at ho4)); have n0_ := Aside0.mk (Kd.R_lower ho4 (keep_size (w := w) (g := g) (row := none) (z_29))); have n1_ := Aside0.mk (IsS96.below (z_28) hb); have n2_ := Aside0.mk (KeepBut.trans (z_29) (KeepBut.of_below hb g none) (.inl rfl)); have n3_ := Aside0.mk (below_step (z_30) hb); clear HI0; clear HK; clear HB; have HO218 := n0_; have HI0 := n1_; have HK := n2_; have HB := n3_; clear n0_ n1_ n2_ n3_; clear hb ho4) | ((with_reducible refine gate_dst (N := 10) rfl ?_); refine Kd.R_lit Kd.string _ 9 ?hg (N := 10) ?hd (xs := ([(⟨#[97]⟩ : ByteArray), (⟨#[98]⟩ : ByteArray), (⟨#[99]⟩ : ByteArray), (⟨#[100, 100]⟩ : ByteArray), (⟨#[101, 101]⟩ : ByteArray), (⟨#[102]⟩ : ByteArray), (⟨#[103, 103]⟩ : ByteArray)] : List ByteArray)) (inner := [.string (⟨#[97]⟩ : ByteArray), .string (⟨#[98]⟩ : ByteArray), .string (⟨#[99]⟩ : ByteArray), .string (⟨#[100, 100]⟩ : ByteArray), .string (⟨#[101, 101]⟩ : ByteArray), .string (⟨#[102]⟩ : ByteArray), .string (⟨#[103, 103]⟩ : ByteArray)]) (ok := fun _ => True) (okp := fun _ => True) ?hr ?hp (fun _ hk => hk) trivial (Below.refl _ _) (Nat.le_refl _) (z_9) ?_; (case hd => rfl); (case hg => rfl); (case hr => exact z_6); (case hp => exact (Reps.one (show Kd.M Kd.string _ _ _ (⟨#[97]⟩ : ByteArray) [.string (⟨#[97]⟩ : ByteArray)] from rfl) (Reps.one (show Kd.M Kd.string _ _ _ (⟨#[98]⟩ : ByteArray) [.string (⟨#[98]⟩ : ByteArray)] from rfl) (Reps.one (show Kd.M Kd.string _ _ _ (⟨#[99]⟩ : ByteArray) [.string (⟨#[99]⟩ : ByteArray)] from rfl) (Reps.one (show Kd.M Kd.string _ _ _ (⟨#[100, 100]⟩ : ByteArray) [.string (⟨#[100, 100]⟩ : ByteArray)] from rfl) (Reps.one (show Kd.M Kd.string _ _ _ (⟨#[101, 101]⟩ : ByteArray) [.string (⟨#[101, 101]⟩ : ByteArray)] from rfl) (Reps.one (show Kd.M Kd.string _ _ _ (⟨#[102]⟩ : ByteArray) [.string (⟨#[102]⟩ : ByteArray)] from rfl) (Reps.one (show Kd.M Kd.string _ _ _ (⟨#[103, 103]⟩ : ByteArray) [.string (⟨#[103, 103]⟩ : ByteArray)] from rfl) (Reps.none _ _))))))))); intro v220 w5 ho6 hb hg_ hnew_; clear hg_ hnew_; (first | rw [← Ny219.out] at ho6 | (simp only [Int.reduceToNat] at ho6; rw [← Ny219.out] at ho6)); have n0_ := Aside0.mk (Kd.R_below (z_41) hb); have n1_ := Aside0.mk (Kd.R_lower ho6 (keep_size (w := w) (g := g) (row := none) (z_29))); have n2_ := Aside0.mk (IsS96.below (z_28) hb); have n3_ := Aside0.mk (KeepBut.trans (z_29) (KeepBut.of_below hb g none) (.inl rfl)); have n4_ := Aside0.mk (below_step (z_30) hb); clear HO218; clear HI0; clear HK; clear HB; have HO218 := n0_; have HO221 := n1_; have HI0 := n2_; have HK := n3_; have HB := n4_; clear n0_ n1_ n2_ n3_ n4_; clear hb ho6; obtain ⟨Ao7, co7, eo7⟩ := Kd.R_slice HO221.out; subst eo7))
  go_loopg [5, 12] k (fun kq v5 v12 w' => ∃ (x5_1 : List (S26)) (x12_1 : Int) (x1001_1 : Int), v12 = .int .i64 x12_1 ∧ Aside0 (spec_l20Names.l0 kq a1 x5_1 y219 (y219.length : Int) x12_1 s0_0 x1001_1 = some (r1, r2)) ∧ Aside0 (kq ≤ k) ∧ Aside0 (Kd.R k26 26 w' w.heap.size (fun _ => True) v5 x5_1) ∧ Aside0 (Kd.R Kd.string 9 w' w.heap.size (fun _ => True) (.slice Ao7 y219.length co7) y219) ∧ Aside0 (IsS96 w0 w' g s0_0 x1001_1) ∧ Aside0 (KeepBut w w' g none) ∧ Aside0 (Below w0.heap.size w0 w'))
  case atStart => exact ⟨(y216), (0), (s0_1), (z_1), H', ⟨Nat.le_refl _⟩, ⟨z_41⟩, ⟨by (with_reducible repeat (first | apply Kd.R_alloc | apply Kd.R_drewN | apply Kd.R_drew)); exact HO221.out⟩, ⟨z_28⟩, ⟨z_29⟩, ⟨z_30⟩⟩
  case round =>
    clear H'
    try clear p2
    try clear c6
    obtain ⟨x5_1, x12_1, x1001_1, rfl, HA, HK1, HO_5, HO_10, HI0, HK, HB⟩ := hrel
    cases gk with
    | zero => exact absurd HA.out (by simp [spec_l20Names.l0])
    | succ k1 =>
      have H := HA.out
      clear HA
      simp only [spec_l20Names.l0] at H
      by_cases c8 : x12_1 < (y219.length : Int)
      · rw [if_pos c8] at H
        have c8b0 : decide (x12_1 < (y219.length : Int)) = true := decide_eq_true c8
        clear c8
        by_cases c9 : 0 ≤ x12_1
        · rw [if_pos c9] at H
          have c9b0 : decide (0 ≤ x12_1) = true := decide_eq_true c9
          clear c9
          by_cases c10 : x12_1 < (y219.length : Int)
          · rw [if_pos c10] at H
            have c10b0 : decide (x12_1 < (y219.length : Int)) = true := decide_eq_true c10
            clear c10
            replace H := Option.bind_eq_some_iff.mp H
            obtain ⟨⟨t223, t224⟩, A110, H⟩ := H
            replace H : (if t223 > 0 then ((spec_l20Name.f k1 s0_0 t224 0).bind fun bt225 => (if x5_1.length < 2513169434916 then (spec_l20Names.l0 k1 a1 (x5_1 ++ [(⟨rdOf ByteArray.empty y219 x12_1, bt225.2.1, bt225.2.2.1, bt225.2.2.2.1, bt225.2.2.2.2.1⟩ : S26)]) y219 (y219.length : Int) (wrap64 (x12_1 + 1)) s0_0 bt225.2.2.2.2.2) else (none))) else (spec_l20Names.l0 k1 a1 x5_1 y219 (y219.length : Int) (wrap64 (x12_1 + 1)) s0_0 t224)) = some (r1, r2) := H
            have A11 := Aside0.mk A110
            clear A110
            by_cases c12 : t223 > 0
            · rw [if_pos c12] at H
              have c12b0 : decide (0 < t223) = true := decide_eq_true c12
              clear c12
              replace H := Option.bind_eq_some_iff.mp H
              obtain ⟨⟨t225, t226, t227, t228, t229, t230⟩, A130, H⟩ := H
              replace H : (if x5_1.length < 2513169434916 then (spec_l20Names.l0 k1 a1 (x5_1 ++ [(⟨rdOf ByteArray.empty y219 x12_1, t226, t227, t228, t229⟩ : S26)]) y219 (y219.length : Int) (wrap64 (x12_1 + 1)) s0_0 t230) else (none)) = some (r1, r2) := H
              have A13 := Aside0.mk A130
              clear A130
              by_cases c14 : x5_1.length < 2513169434916
              · rw [if_pos c14] at H
                have LMc14 := Aside0.mk c14
                clear c14
                obtain ⟨y232, hy232⟩ : ∃ y_ : List (S26), y_ = (x5_1 ++ [(⟨rdOf ByteArray.empty y219 x12_1, t226, t227, t228, t229⟩ : S26)]) := ⟨_, rfl⟩
                replace H : (spec_l20Names.l0 k1 a1 y232 y219 (y219.length : Int) (wrap64 (x12_1 + 1)) s0_0 t230) = some (r1, r2) := by first | (rw [hy232]; with_reducible exact H) | (have H2_ := (Option.bind_some _ _).symm.trans H; rw [hy232]; with_reducible exact H2_) | (have H2_ := (Option.bind_some _ _).symm.trans H; with_reducible exact H2_) | with_reducible exact H | (rw [hy232]; exact H) | exact H
                have Ny232 := Aside0.mk hy232
                clear hy232
                have H' := Aside0.mk H
                clear H
                have p222 : 0 ≤ (x12_1 : Int) := of_decide_eq_true (z_4)
                have q222 : x12_1 < (y219.length : Int) := of_decide_eq_true (z_4)
                obtain ⟨ad222, e222, hx222_0⟩ := Kd.at_string (Kd.R_reads' HO_10.out).2.2 x12_1 p222 q222
                cases e222
                replace p222 := eq_true p222
                replace q222 := eq_true q222
                generalize htx_ : rdOf ByteArray.empty y219 x12_1 = tx_ at hx222_0 Ny232
                clear htx_
                go_upto_region 8 with (first | ((with_reducible refine gate_callee (f := 69) rfl ?_); refine goesL_ (some 17) rfl rfl Try.func69 (z_0) rfl #[.pointer (some ⟨g, 0, none⟩), .int .i64 3] rfl (z_11) ?_; (with_reducible refine (spec_l20Rd_pick.calls k1 g s0_0 x1001_1 3 t223 t224 w0 _ ?side1 ?side2 A11.out).mono ?_); (case side1 => exact z_28); (case side2 => exact z_30); rintro e w15 ⟨rfl, hi, hb, hk⟩; refine ⟨_, rfl, ?_⟩; have n0_ := Aside0.mk (Kd.R_mono (Kd.R_keep (IsS96.apart (show IsS96 w0 _ g s0_0 x1001_1 from z_28) (z_8) (z_3)) hk (fun _ h => h.2)) (fun _ h => h.1)); have n1_ := Aside0.mk (Kd.R_mono (Kd.R_keep (IsS96.apart (show IsS96 w0 _ g s0_0 x1001_1 from z_28) (z_42) (z_3)) hk (fun _ h => h.2)) (fun _ h => h.1)); have n2_ := Aside0.mk (KeepBut.trans (z_29) hk (.inl rfl)); have n3_ := Aside0.mk (hb); have n4_ := Aside0.mk (hi); clear HO_5; clear HO_10; clear HK; clear HB; clear HI0; have HO_5 := n0_; have HO_10 := n1_; have HK := n2_; have HB := n3_; have HI0 := n4_; clear n0_ n1_ n2_ n3_ n4_; (try clear hb); (try clear hb2); (try clear hk); (try clear hi)) | ((with_reducible refine gate_callee (f := 59) rfl ?_); refine goesL_ (some 20) rfl rfl Try.func59 (z_0) rfl #[.pointer (some ⟨g, 0, none⟩), .int .i64 0] rfl (z_11) ?_; (with_reducible refine (spec_l20Name.calls k1 g s0_0 t224 0 t225 t226 t227 t228 t229 t230 w0 _ ?side1 ?side2 A13.out).mono ?_); (case side1 => exact z_28); (case side2 => exact z_30); rintro e w16 ⟨rfl, hi, hb, hk⟩; refine ⟨_, rfl, ?_⟩; have n0_ := Aside0.mk (Kd.R_mono (Kd.R_keep (IsS96.apart (show IsS96 w0 _ g s0_0 t224 from z_28) (z_8) (z_3)) hk (fun _ h => h.2)) (fun _ h => h.1)); have n1_ := Aside0.mk (Kd.R_mono (Kd.R_keep (IsS96.apart (show IsS96 w0 _ g s0_0 t224 from z_28) (z_42) (z_3)) hk (fun _ h => h.2)) (fun _ h => h.1)); have n2_ := Aside0.mk (KeepBut.trans (z_29) hk (.inl rfl)); have n3_ := Aside0.mk (hb); have n4_ := Aside0.mk (hi); clear HO_5; clear HO_10; clear HK; clear HB; clear HI0; have HO_5 := n0_; have HO_10 := n1_; have HK := n2_; have HB := n3_; have HI0 := n4_; clear n0_ n1_ n2_ n3_ n4_; (try clear hb); (try clear hb2); (try clear hk); (try clear hi)) | ((with_reducible refine gate_dst (N := 8) rfl ?_); refine box_event ?hg (N := 8) ?hd (cs := #[.string (⟨#[]⟩ : ByteArray), .int .i64 0, .int .i64 0, .string (⟨#[]⟩ : ByteArray), .int .i64 0]) (t := 26) ?hr ?_; (case hd => rfl); (case hg => rfl); (case hr => exact z_6); intro gb231 hg w17 hbox hb; have n0_ := Aside0.mk (Kd.R_below (Kd.R_elderB (z_8) gb231 (Nat.le_of_eq hg.symm)) hb); have n1_ := Aside0.mk (Kd.R_below (z_42) hb); have n2_ := Aside0.mk (IsS96.below (z_28) hb); have n3_ := Aside0.mk (KeepBut.trans (z_29) (KeepBut.of_below hb g none) (.inl rfl)); have n4_ := Aside0.mk (below_step (z_30) hb); have n5_ := Aside0.mk (hbox); have n6_ := Aside0.mk ((z_31 : w.heap.size ≤ gb231)); have n7_ := Aside0.mk ((Nat.le_trans HW0.out (z_31 : w.heap.size ≤ gb231) : w0.heap.size ≤ gb231)); have n8_ := Aside0.mk ((by rw [hg]; exact Nat.ne_of_lt (IsS96.lt (show IsS96 w0 _ g s0_0 t230 from z_28)) : g ≠ gb231)); have n9_ := Aside0.mk ((by rw [hg]; exact Nat.ne_of_gt (IsS96.lt (show IsS96 w0 _ g s0_0 t230 from z_28)) : gb231 ≠ g)); clear HO_5; clear HO_10; clear HI0; clear HK; clear HB; have HO_5 := n0_; have HO_10 := n1_; have HI0 := n2_; have HK := n3_; have HB := n4_; have BK231 := n5_; have GW231 := n6_; have GE231 := n7_; have NB0_231 := n8_; have NB231_0 := n9_; clear n0_ n1_ n2_ n3_ n4_ n5_ n6_ n7_ n8_ n9_; clear hb hbox hg; have hnb18 := NB231_0.out; have hnc18 := NB0_231.out; have hcz19_0 : w17.cell? ⟨gb231, 0, none⟩ = some (.string (⟨#[]⟩ : ByteArray)) := (blk_cell BK231.out 0).trans rfl; have hcz19_1 : w17.cell? ⟨gb231, 1, none⟩ = some (.int .i64 0) := (blk_cell BK231.out 1).trans rfl; have hcz19_2 : w17.cell? ⟨gb231, 2, none⟩ = some (.int .i64 0) := (blk_cell BK231.out 2).trans rfl; have hcz19_3 : w17.cell? ⟨gb231, 3, none⟩ = some (.string (⟨#[]⟩ : ByteArray)) := (blk_cell BK231.out 3).trans rfl; have hcz19_4 : w17.cell? ⟨gb231, 4, none⟩ = some (.int .i64 0) := (blk_cell BK231.out 4).trans rfl; have hfz19_0 := blk_frozen BK231.out 0; have hfz19_1 := blk_frozen BK231.out 1; have hfz19_2 := blk_frozen BK231.out 2; have hfz19_3 := blk_frozen BK231.out 3; have hfz19_4 := blk_frozen BK231.out 4))
                obtain ⟨w18, hw18_⟩ : ∃ w_ : World, w_ = ((((((w17.setCell ⟨gb231, 0, none⟩ (.string t225)).setCell ⟨gb231, 1, none⟩ (.int .i64 t226)).setCell ⟨gb231, 2, none⟩ (.int .i64 t227)).setCell ⟨gb231, 3, none⟩ (.string t228)).setCell ⟨gb231, 4, none⟩ (.int .i64 t229)).setCell ⟨gb231, 0, none⟩ (.string (tx_))) := ⟨_, rfl⟩
                have nb_ := Aside0.mk (show w18.heap[gb231]? = some (.cells #[.string (tx_), .int .i64 t226, .int .i64 t227, .string t228, .int .i64 t229] 26 (0, 0)) by rw [hw18_]; (with_reducible repeat (first | refine blk_drewN ?_ _ | refine blk_drew ?_ | refine blk_alloc ?_ _)); refine blk_put (cs := #[.string t225, .int .i64 t226, .int .i64 t227, .string t228, .int .i64 t229]) ?_ 0 _ rfl; (with_reducible repeat (first | refine blk_drewN ?_ _ | refine blk_drew ?_ | refine blk_alloc ?_ _)); refine blk_put (cs := #[.string t225, .int .i64 t226, .int .i64 t227, .string t228, .int .i64 0]) ?_ 4 _ rfl; (with_reducible repeat (first | refine blk_drewN ?_ _ | refine blk_drew ?_ | refine blk_alloc ?_ _)); refine blk_put (cs := #[.string t225, .int .i64 t226, .int .i64 t227, .string (⟨#[]⟩ : ByteArray), .int .i64 0]) ?_ 3 _ rfl; (with_reducible repeat (first | refine blk_drewN ?_ _ | refine blk_drew ?_ | refine blk_alloc ?_ _)); refine blk_put (cs := #[.string t225, .int .i64 t226, .int .i64 0, .string (⟨#[]⟩ : ByteArray), .int .i64 0]) ?_ 2 _ rfl; (with_reducible repeat (first | refine blk_drewN ?_ _ | refine blk_drew ?_ | refine blk_alloc ?_ _)); refine blk_put (cs := #[.string t225, .int .i64 0, .int .i64 0, .string (⟨#[]⟩ : ByteArray), .int .i64 0]) ?_ 1 _ rfl; (with_reducible repeat (first | refine blk_drewN ?_ _ | refine blk_drew ?_ | refine blk_alloc ?_ _)); refine blk_put (cs := #[.string (⟨#[]⟩ : ByteArray), .int .i64 0, .int .i64 0, .string (⟨#[]⟩ : ByteArray), .int .i64 0]) ?_ 0 _ rfl; (with_reducible repeat (first | refine blk_drewN ?_ _ | refine blk_drew ?_ | refine blk_alloc ?_ _)); exact BK231.out)
                have n5_ := Aside0.mk (show Kd.R k26 26 w18 w.heap.size (fun k_ => k_ ≠ gb231) u5 x5_1 by rw [hw18_]; exact Kd.R_mono (Kd.R_far (p := ⟨gb231, 0, none⟩) (Kd.R_far (p := ⟨gb231, 4, none⟩) (Kd.R_far (p := ⟨gb231, 3, none⟩) (Kd.R_far (p := ⟨gb231, 2, none⟩) (Kd.R_far (p := ⟨gb231, 1, none⟩) (Kd.R_far (p := ⟨gb231, 0, none⟩) (Kd.R_mono HO_5.out (fun k_ hk => (⟨hk, hk.2⟩ : _ ∧ k_ ≠ gb231))) (fun _ hk => hk.2) (.string t225)) (fun _ hk => hk.2) (.int .i64 t226)) (fun _ hk => hk.2) (.int .i64 t227)) (fun _ hk => hk.2) (.string t228)) (fun _ hk => hk.2) (.int .i64 t229)) (fun _ hk => hk.2) (.string (tx_))) (fun _ hk => hk.1.2))
                have n10_ := Aside0.mk (show Kd.R Kd.string 9 w18 w.heap.size (fun _ => True) _ y219 by rw [hw18_]; exact (Kd.R_mono (Kd.R_far (p := ⟨gb231, 0, none⟩) (Kd.R_far (p := ⟨gb231, 4, none⟩) (Kd.R_far (p := ⟨gb231, 3, none⟩) (Kd.R_far (p := ⟨gb231, 2, none⟩) (Kd.R_far (p := ⟨gb231, 1, none⟩) (Kd.R_far (p := ⟨gb231, 0, none⟩) (Kd.R_types HO_10.out BK231.out (z_3)) (fun _ hk => hk.2) (.string t225)) (fun _ hk => hk.2) (.int .i64 t226)) (fun _ hk => hk.2) (.int .i64 t227)) (fun _ hk => hk.2) (.string t228)) (fun _ hk => hk.2) (.int .i64 t229)) (fun _ hk => hk.2) (.string (tx_))) (fun _ h_ => h_.1)))
                have ni_ := Aside0.mk (show IsS96 w0 w18 g s0_0 t230 by rw [hw18_]; repeat (first | (with_reducible first | exact HI0.out | apply IsS96.alloc | apply IsS96.drewN | apply IsS96.drew | apply IsS96.set_1 | refine IsS96.far ?_ NB0_231.out _) | exact HI0.out))
                have nk_ := Aside0.mk (show KeepBut w w18 g none by rw [hw18_]; repeat (first | (with_reducible first | exact HK.out | apply KeepBut.set_ | apply keep_drewN | apply keep_drew | apply keep_alloc | refine keep_far ?_ GW231.out _) | exact HK.out))
                have nw_ := Aside0.mk (show Below w0.heap.size w0 w18 by rw [hw18_]; repeat (first | (with_reducible first | exact HB.out | apply below_alloc | apply pw_below_drewN | apply below_drew1 | refine below_set ?_ (IsS96.ge HI0.out) | refine below_set ?_ GE231.out) | exact HB.out))
                rw [← hw18_]
                clear hw18_ HO_5 HO_10 HI0 HK HB BK231
                clear hcz19_0
                clear hcz19_1
                clear hcz19_2
                clear hcz19_3
                clear hcz19_4
                clear hfz19_0
                clear hfz19_1
                clear hfz19_2
                clear hfz19_3
                clear hfz19_4
                have BK231 := nb_
                have HO_5 := n5_
                have HO_10 := n10_
                have HI0 := ni_
                have HK := nk_
                have HB := nw_
                clear nb_ n5_ n10_ ni_ nk_ nw_
                have hcz_0 : w18.cell? ⟨gb231, 0, none⟩ = some (.string (tx_)) := (blk_cell BK231.out 0).trans rfl
                have hfz_0 := blk_frozen BK231.out 0
                have hcz_1 : w18.cell? ⟨gb231, 1, none⟩ = some (.int .i64 t226) := (blk_cell BK231.out 1).trans rfl
                have hfz_1 := blk_frozen BK231.out 1
                have hcz_2 : w18.cell? ⟨gb231, 2, none⟩ = some (.int .i64 t227) := (blk_cell BK231.out 2).trans rfl
                have hfz_2 := blk_frozen BK231.out 2
                have hcz_3 : w18.cell? ⟨gb231, 3, none⟩ = some (.string t228) := (blk_cell BK231.out 3).trans rfl
                have hfz_3 := blk_frozen BK231.out 3
                have hcz_4 : w18.cell? ⟨gb231, 4, none⟩ = some (.int .i64 t229) := (blk_cell BK231.out 4).trans rfl
                have hfz_4 := blk_frozen BK231.out 4
                go_wp2_with (first | ((with_reducible refine gate_builtin (b := .append) (xs := #[.tmp 23, .tmp 25]) rfl ?_); at_builtin; refine Kd.R_append k26 w.heap.size rfl (.tmp 23) (.tmp 25) 36 26 (.agg #[(.string ⟨#[]⟩), (.int .i64 0), (.int .i64 0), (.string ⟨#[]⟩), (.int .i64 0)]) 56 rfl Try.underlying36 info26 rfl (z_3) (by omega) u5 x5_1 (⟨tx_, t226, t227, t228, t229⟩ : S26) [.string (tx_), .int .i64 t226, .int .i64 t227, .string t228, .int .i64 t229] (fun k_ => k_ ≠ gb231) (fun _ => False) rfl (z_6) ?aP (fun _ hk => hk.elim) ?aF ?aO (Below.refl _ _) ?aS ?aL ?_; (case aP => exact k26_mkM _ _ _ (⟨tx_, t226, t227, t228, t229⟩ : S26)); (case aF => exact (fun k_ hk => Kd.freshB (g := gb231) (o := .cells #[.string (tx_), .int .i64 t226, .int .i64 t227, .string t228, .int .i64 t229] 26 (0, 0)) (z_43) k_ hk)); (case aO => exact z_44); (case aS => exact (keep_size (w := w) (g := g) (row := none) (z_45))); (case aL => have := LMc14.out; omega); intro v233 w20 ho hb hg hat; rw [← Ny232.out] at ho; have n0_ := Aside0.mk (Kd.R_over' (z_42) (Kd.R_typed (z_8)) (z_3) hg); have n1_ := Aside0.mk (IsS96.grown (z_46) hg (IsS96.own_ne HI0.out HO_5.out (z_3))); have n2_ := Aside0.mk (blk_grown (g := gb231) (o := .cells #[.string (tx_), .int .i64 t226, .int .i64 t227, .string t228, .int .i64 t229] 26 (0, 0)) (z_43) hg (Kd.R_away HO_5.out (fun _ hk => hk))); have n3_ := Aside0.mk (below_weaken (z_47) HL.out hb); have n4_ := Aside0.mk (KeepBut.trans (z_45) (KeepBut.of_grown hg g) (Kd.R_base2 HO_5.out)); have n5_ := Aside0.mk (ho); clear HO_10; clear HI0; clear BK231; clear HB; clear HK; clear HO_5; have HO_10 := n0_; have HI0 := n1_; have BK231 := n2_; have HB := n3_; have HK := n4_; have HO234 := n5_; clear n0_ n1_ n2_ n3_ n4_ n5_; clear ho hb hg hat))
                go_roundg k1
                case measure => have := HK1.out; omega
                case rel => exact ⟨(y232), (wrap64 (x12_1 + 1)), (t230), (z_1), H', ⟨z_7⟩, ⟨by (with_reducible repeat (first | apply Kd.R_alloc | apply Kd.R_drewN | apply Kd.R_drew)); exact Kd.R_mono HO234.out (fun _ hk => trivial)⟩, ⟨z_42⟩, ⟨z_46⟩, ⟨z_45⟩, ⟨z_47⟩⟩
              · rw [if_neg c14] at H
                exact absurd H (z_9)
            · rw [if_neg c12] at H
              have c12b0 : decide (0 < t223) = false := decide_eq_false c12
              clear c12
              have H' := Aside0.mk H
              clear H
              have p222 : 0 ≤ (x12_1 : Int) := of_decide_eq_true (z_4)
              have q222 : x12_1 < (y219.length : Int) := of_decide_eq_true (z_4)
              obtain ⟨ad222, e222, hx222_0⟩ := Kd.at_string (Kd.R_reads' HO_10.out).2.2 x12_1 p222 q222
              cases e222
              replace p222 := eq_true p222
              replace q222 := eq_true q222
              go_wp2_with (first | ((with_reducible refine gate_callee (f := 69) rfl ?_); refine goesL_ (some 17) rfl rfl Try.func69 (z_0) rfl #[.pointer (some ⟨g, 0, none⟩), .int .i64 3] rfl (z_11) ?_; (with_reducible refine (spec_l20Rd_pick.calls k1 g s0_0 x1001_1 3 t223 t224 w0 _ ?side1 ?side2 A11.out).mono ?_); (case side1 => exact z_28); (case side2 => exact z_30); rintro e w21 ⟨rfl, hi, hb, hk⟩; refine ⟨_, rfl, ?_⟩; have n0_ := Aside0.mk (Kd.R_mono (Kd.R_keep (IsS96.apart (show IsS96 w0 _ g s0_0 x1001_1 from z_28) (z_8) (z_3)) hk (fun _ h => h.2)) (fun _ h => h.1)); have n1_ := Aside0.mk (Kd.R_mono (Kd.R_keep (IsS96.apart (show IsS96 w0 _ g s0_0 x1001_1 from z_28) (z_42) (z_3)) hk (fun _ h => h.2)) (fun _ h => h.1)); have n2_ := Aside0.mk (KeepBut.trans (z_29) hk (.inl rfl)); have n3_ := Aside0.mk (hb); have n4_ := Aside0.mk (hi); clear HO_5; clear HO_10; clear HK; clear HB; clear HI0; have HO_5 := n0_; have HO_10 := n1_; have HK := n2_; have HB := n3_; have HI0 := n4_; clear n0_ n1_ n2_ n3_ n4_; (try clear hb); (try clear hb2); (try clear hk); (try clear hi)))
              go_roundg k1
              case measure => have := HK1.out; omega
              case rel => exact ⟨(x5_1), (wrap64 (x12_1 + 1)), (t224), (z_1), H', ⟨z_7⟩, ⟨z_8⟩, ⟨z_42⟩, ⟨z_28⟩, ⟨z_29⟩, ⟨z_30⟩⟩
          · rw [if_neg c10] at H
            exact absurd H (z_9)
        · rw [if_neg c9] at H
          exact absurd H (z_9)
      · rw [if_neg c8] at H
        have c8b0 : decide (x12_1 < (y219.length : Int)) = false := decide_eq_false c8
        clear c8
        replace H := Option.bind_eq_some_iff.mp H
        obtain ⟨⟨t235, t236⟩, A220, H⟩ := H
        replace H : (if t235 = true then ((spec_l20Name.f k1 s0_0 t236 1).bind fun bt237 => (if x5_1.length < 2513169434916 then (some ((x5_1 ++ [(⟨bt237.1, bt237.2.1, bt237.2.2.1, bt237.2.2.2.1, bt237.2.2.2.2.1⟩ : S26)]), bt237.2.2.2.2.2)) else (none))) else (some (x5_1, t236))) = some (r1, r2) := H
        have A22 := Aside0.mk A220
        clear A220
        by_cases c23 : t235 = true
        · subst c23
          rw [if_pos rfl] at H
          replace H := Option.bind_eq_some_iff.mp H
          obtain ⟨⟨t237, t238, t239, t240, t241, t242⟩, A240, H⟩ := H
          replace H : (if x5_1.length < 2513169434916 then (some ((x5_1 ++ [(⟨t237, t238, t239, t240, t241⟩ : S26)]), t242)) else (none)) = some (r1, r2) := H
          have A24 := Aside0.mk A240
          clear A240
          by_cases c25 : x5_1.length < 2513169434916
          · rw [if_pos c25] at H
            have LMc25 := Aside0.mk c25
            clear c25
            obtain ⟨y243, hy243⟩ : ∃ y_ : List (S26), y_ = (x5_1 ++ [(⟨t237, t238, t239, t240, t241⟩ : S26)]) := ⟨_, rfl⟩
            replace H : (some (y243, t242)) = some (r1, r2) := by first | (rw [hy243]; with_reducible exact H) | (have H2_ := (Option.bind_some _ _).symm.trans H; rw [hy243]; with_reducible exact H2_) | (have H2_ := (Option.bind_some _ _).symm.trans H; with_reducible exact H2_) | with_reducible exact H | (rw [hy243]; exact H) | exact H
            have Ny243 := Aside0.mk hy243
            clear hy243
            simp only [Option.some.injEq, Prod.mk.injEq] at H
            obtain ⟨rfl, rfl⟩ := H
            go_wp2_with (first | ((with_reducible refine gate_callee (f := 78) rfl ?_); refine goesL_ (some 30) rfl rfl Try.func78 (z_0) rfl #[.pointer (some ⟨g, 0, none⟩), .int .i64 a1] rfl (z_11) ?_; (with_reducible refine (spec_l20Rd_odd.calls k1 g s0_0 x1001_1 a1 true t236 w0 _ ?side1 ?side2 A22.out).mono ?_); (case side1 => exact z_28); (case side2 => exact z_30); rintro e w26 ⟨rfl, hi, hb, hk⟩; refine ⟨_, rfl, ?_⟩; have n0_ := Aside0.mk (Kd.R_mono (Kd.R_keep (IsS96.apart (show IsS96 w0 _ g s0_0 x1001_1 from z_28) (z_8) (z_3)) hk (fun _ h => h.2)) (fun _ h => h.1)); have n1_ := Aside0.mk (Kd.R_mono (Kd.R_keep (IsS96.apart (show IsS96 w0 _ g s0_0 x1001_1 from z_28) (z_42) (z_3)) hk (fun _ h => h.2)) (fun _ h => h.1)); have n2_ := Aside0.mk (KeepBut.trans (z_29) hk (.inl rfl)); have n3_ := Aside0.mk (hb); have n4_ := Aside0.mk (hi); clear HO_5; clear HO_10; clear HK; clear HB; clear HI0; have HO_5 := n0_; have HO_10 := n1_; have HK := n2_; have HB := n3_; have HI0 := n4_; clear n0_ n1_ n2_ n3_ n4_; (try clear hb); (try clear hb2); (try clear hk); (try clear hi)) | ((with_reducible refine gate_callee (f := 59) rfl ?_); refine goesL_ (some 33) rfl rfl Try.func59 (z_0) rfl #[.pointer (some ⟨g, 0, none⟩), .int .i64 1] rfl (z_11) ?_; (with_reducible refine (spec_l20Name.calls k1 g s0_0 t236 1 t237 t238 t239 t240 t241 t242 w0 _ ?side1 ?side2 A24.out).mono ?_); (case side1 => exact z_28); (case side2 => exact z_30); rintro e w27 ⟨rfl, hi, hb, hk⟩; refine ⟨_, rfl, ?_⟩; have n0_ := Aside0.mk (Kd.R_mono (Kd.R_keep (IsS96.apart (show IsS96 w0 _ g s0_0 t236 from z_28) (z_8) (z_3)) hk (fun _ h => h.2)) (fun _ h => h.1)); have n1_ := Aside0.mk (Kd.R_mono (Kd.R_keep (IsS96.apart (show IsS96 w0 _ g s0_0 t236 from z_28) (z_42) (z_3)) hk (fun _ h => h.2)) (fun _ h => h.1)); have n2_ := Aside0.mk (KeepBut.trans (z_29) hk (.inl rfl)); have n3_ := Aside0.mk (hb); have n4_ := Aside0.mk (hi); clear HO_5; clear HO_10; clear HK; clear HB; clear HI0; have HO_5 := n0_; have HO_10 := n1_; have HK := n2_; have HB := n3_; have HI0 := n4_; clear n0_ n1_ n2_ n3_ n4_; (try clear hb); (try clear hb2); (try clear hk); (try clear hi)) | ((with_reducible refine gate_builtin (b := .append) (xs := #[.tmp 31, .tmp 34]) rfl ?_); at_builtin; refine Kd.R_append k26 w.heap.size rfl (.tmp 31) (.tmp 34) 36 26 (.agg #[(.string ⟨#[]⟩), (.int .i64 0), (.int .i64 0), (.string ⟨#[]⟩), (.int .i64 0)]) 56 rfl Try.underlying36 info26 rfl (z_3) (by omega) u5 x5_1 (⟨t237, t238, t239, t240, t241⟩ : S26) [.string t237, .int .i64 t238, .int .i64 t239, .string t240, .int .i64 t241] (fun _ => True) (fun _ => False) rfl rfl ?aP (fun _ hk => hk.elim) ?aF ?aO (Below.refl _ _) ?aS ?aL ?_; (case aP => exact k26_mkM _ _ _ (⟨t237, t238, t239, t240, t241⟩ : S26)); (case aF => exact (fun _ _ => trivial)); (case aO => exact z_44); (case aS => exact (keep_size (w := w) (g := g) (row := none) (z_29))); (case aL => have := LMc25.out; omega); intro v244 w28 ho hb hg hat; rw [← Ny243.out] at ho; have n0_ := Aside0.mk (Kd.R_over' (z_42) (Kd.R_typed (z_8)) (z_3) hg); have n1_ := Aside0.mk (IsS96.grown (z_28) hg (IsS96.own_ne HI0.out HO_5.out (z_3))); have n2_ := Aside0.mk (below_weaken (z_30) HL.out hb); have n3_ := Aside0.mk (KeepBut.trans (z_29) (KeepBut.of_grown hg g) (Kd.R_base2 HO_5.out)); have n4_ := Aside0.mk (ho); clear HO_10; clear HI0; clear HB; clear HK; clear HO_5; have HO_10 := n0_; have HI0 := n1_; have HB := n2_; have HK := n3_; have HO245 := n4_; clear n0_ n1_ n2_ n3_ n4_; clear ho hb hg hat))
            go_ret
            exact ⟨_, z_10, by (with_reducible repeat (first | apply Kd.R_alloc | apply Kd.R_drewN | apply Kd.R_drew)); exact HO245.out, z_28, z_30, z_29⟩
          · rw [if_neg c25] at H
            exact absurd H (z_9)
        · replace c23 := Bool.eq_false_iff.mpr c23
          subst c23
          rw [if_neg (show ¬ (false = true) by decide)] at H
          simp only [Option.some.injEq, Prod.mk.injEq] at H
          obtain ⟨rfl, rfl⟩ := H
          go_wp2_with (first | ((with_reducible refine gate_callee (f := 78) rfl ?_); refine goesL_ (some 30) rfl rfl Try.func78 (z_0) rfl #[.pointer (some ⟨g, 0, none⟩), .int .i64 a1] rfl (z_11) ?_; (with_reducible refine (spec_l20Rd_odd.calls k1 g s0_0 x1001_1 a1 false t236 w0 _ ?side1 ?side2 A22.out).mono ?_); (case side1 => exact z_28); (case side2 => exact z_30); rintro e w29 ⟨rfl, hi, hb, hk⟩; refine ⟨_, rfl, ?_⟩; have n0_ := Aside0.mk (Kd.R_mono (Kd.R_keep (IsS96.apart (show IsS96 w0 _ g s0_0 x1001_1 from z_28) (z_8) (z_3)) hk (fun _ h => h.2)) (fun _ h => h.1)); have n1_ := Aside0.mk (Kd.R_mono (Kd.R_keep (IsS96.apart (show IsS96 w0 _ g s0_0 x1001_1 from z_28) (z_42) (z_3)) hk (fun _ h => h.2)) (fun _ h => h.1)); have n2_ := Aside0.mk (KeepBut.trans (z_29) hk (.inl rfl)); have n3_ := Aside0.mk (hb); have n4_ := Aside0.mk (hi); clear HO_5; clear HO_10; clear HK; clear HB; clear HI0; have HO_5 := n0_; have HO_10 := n1_; have HK := n2_; have HB := n3_; have HI0 := n4_; clear n0_ n1_ n2_ n3_ n4_; (try clear hb); (try clear hb2); (try clear hk); (try clear hi)))
          go_ret
          exact ⟨_, z_10, z_8, z_28, z_30, z_29⟩

/-! ### spec_DrawNameFind: function 41 -/
def spec_DrawNameFind.f (k : Nat) (l0 : List Int) : Option ((List (S26)) × ByteArray) := (spec_l20Open.f l0).bind fun bt246 => ((spec_l20Names.f k bt246.1 bt246.2 20).bind fun bt249 => ((spec_l20Text.f k bt246.1 bt249.2).bind fun bt253 => (some (bt249.1, bt253.1))))
theorem spec_DrawNameFind.mono : ∀ a0 k, LeO (spec_DrawNameFind.f k a0) (spec_DrawNameFind.f (k + 1) a0) := by
  intro a0 k
  unfold spec_DrawNameFind.f
  repeat' first
      | (with_reducible exact spec_l20Names.mono _ _ _ _)
      | (with_reducible exact spec_l20Text.mono _ _ _)
      | (with_reducible exact LeO.refl _)
      | (with_reducible exact LeO.none _)
      | (with_reducible refine LeO.ite ?_ ?_)
      | (with_reducible refine LeO.bind ?_ (fun _ => ?_))
      | exact spec_l20Names.mono _ _ _ _
      | exact spec_l20Text.mono _ _ _
      | exact LeO.none _
      | refine LeO.ite ?_ ?_
      | refine LeO.bind ?_ (fun _ => ?_)
set_option maxHeartbeats 8000000 in
set_option maxRecDepth 100000 in
theorem spec_DrawNameFind.calls (k : Nat) (A0 : Option Addr) (c0 : Nat) (l0 : List Int) (r1 : List (S26)) (r2 : ByteArray) (w : World) (hr0 : Kd.C (Kd.int .u8) w A0 l0.length l0) (hc0 : l0.length ≤ c0) (h : spec_DrawNameFind.f k l0 = some (r1, r2)) :
    Calls Try.prog 41 #[.slice A0 l0.length c0] w fun e w' => ∃ v0_ : Value, e = .returned (.tuple #[v0_, .string r2]) ∧ Kd.R k26 26 w' w.heap.size (fun _ => True) v0_ r1 ∧ Below w.heap.size w w' := by
  have HR0 := Aside0.mk hr0
  have HC0 := Aside0.mk hc0
  clear hr0 hc0
  have HB := Aside0.mk (Below.refl w.heap.size w)
  have H : ((spec_l20Open.f l0).bind fun bt246 => ((spec_l20Names.f k bt246.1 bt246.2 20).bind fun bt249 => ((spec_l20Text.f k bt246.1 bt249.2).bind fun bt253 => (some (bt249.1, bt253.1))))) = some (r1, r2) := h
  clear h
  replace H := Option.bind_eq_some_iff.mp H
  obtain ⟨⟨t246, t247⟩, A20, H⟩ := H
  replace H : ((spec_l20Names.f k t246 t247 20).bind fun bt249 => ((spec_l20Text.f k t246 bt249.2).bind fun bt253 => (some (bt249.1, bt253.1)))) = some (r1, r2) := H
  have A2 := Aside0.mk A20
  clear A20
  replace H := Option.bind_eq_some_iff.mp H
  obtain ⟨⟨t249, t252⟩, A30, H⟩ := H
  replace H : ((spec_l20Text.f k t246 t252).bind fun bt253 => (some (t249, bt253.1))) = some (r1, r2) := H
  have A3 := Aside0.mk A30
  clear A30
  replace H := Option.bind_eq_some_iff.mp H
  obtain ⟨⟨t253, t254⟩, A40, H⟩ := H
  replace H : (some (t249, t253)) = some (r1, r2) := H
  have A4 := Aside0.mk A40
  clear A40
  simp only [Option.some.injEq, Prod.mk.injEq] at H
  obtain ⟨rfl, rfl⟩ := H
  go_enter Try.func41, Try.ntmps41
  go_wp2_with (first | ((with_reducible refine gate_callee (f := 60) rfl ?_); refine goesL_ (some 6) rfl rfl Try.func60 (z_0) rfl #[.slice A0 l0.length c0] rfl (z_11) ?_; (with_reducible refine (spec_l20Open.calls _ _ l0 t246 t247 w _ ?side1 ?side2 ?side3 A2.out).mono ?_); (case side1 => exact z_5); (case side2 => exact HR0.out); (case side3 => exact HC0.out); rintro e w5 ⟨g248, rfl, hi, hb, hb2⟩; refine ⟨_, rfl, ?_⟩; have n0_ := Aside0.mk (hb); have n1_ := Aside0.mk (hi); clear HB; have HB := n0_; have HI248 := n1_; clear n0_ n1_; (try clear hb); (try clear hb2); (try clear hk); (try clear hi)) | ((with_reducible refine gate_callee (f := 62) rfl ?_); refine goesL_ (some 8) rfl rfl Try.func62 (z_0) rfl #[.pointer (some ⟨g248, 0, none⟩), .int .i64 20] rfl (z_11) ?_; (with_reducible refine (spec_l20Names.calls k g248 t246 t247 20 t249 t252 w _ ?side1 ?side2 A3.out).mono ?_); (case side1 => exact z_48); (case side2 => exact z_49); rintro e w6 ⟨v250, rfl, ho0, hi, hb, hk⟩; refine ⟨_, rfl, ?_⟩; have n0_ := Aside0.mk (Kd.R_lower ho0 (below_size (z_49))); have n1_ := Aside0.mk (hb); have n2_ := Aside0.mk (hi); clear HB; clear HI248; have HO251 := n0_; have HB := n1_; have HI248 := n2_; clear n0_ n1_ n2_; (try clear hb); (try clear hb2); (try clear hk); (try clear hi); (try clear ho0)) | ((with_reducible refine gate_callee (f := 68) rfl ?_); refine goesL_ (some 10) rfl rfl Try.func68 (z_0) rfl #[.pointer (some ⟨g248, 0, none⟩)] rfl (z_11) ?_; (with_reducible refine (spec_l20Text.calls k g248 t246 t252 t253 t254 w _ ?side1 ?side2 A4.out).mono ?_); (case side1 => exact z_48); (case side2 => exact z_49); rintro e w7 ⟨rfl, hi, hb, hk⟩; refine ⟨_, rfl, ?_⟩; have n0_ := Aside0.mk (Kd.R_mono (Kd.R_keep (IsS96.apart (show IsS96 w _ g248 t246 t252 from z_48) (z_50) (z_3)) hk (fun _ h => h.2)) (fun _ h => h.1)); have n1_ := Aside0.mk (hb); have n2_ := Aside0.mk (hi); clear HO251; clear HB; clear HI248; have HO251 := n0_; have HB := n1_; have HI248 := n2_; clear n0_ n1_ n2_; (try clear hb); (try clear hb2); (try clear hk); (try clear hi)))
  go_ret2
  exact ⟨_, z_10, z_50, z_49⟩

end Go.Proofs.Ytmgnmgobibpjjaa.GFnNameFind
