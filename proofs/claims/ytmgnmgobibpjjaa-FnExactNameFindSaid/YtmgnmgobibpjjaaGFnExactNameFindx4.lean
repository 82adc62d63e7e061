/- What the Go functions that FnExactNameFind reaches come to, walked step by step; there is no condition beyond those each statement names. -/
import Derived.Test.YtmgnmgobibpjjaaGFnExactNameFindx0
import Derived.Test.YtmgnmgobibpjjaaGFnExactNameFindx2
import Derived.Test.YtmgnmgobibpjjaaGFnExactNameFindx3
namespace Go.Proofs.Ytmgnmgobibpjjaa.GFnExactNameFind
open Go.RowKit Go.Proofs.YtmgnmgobibpjjaaU.PrintWords Go.Proofs.YtmgnmgobibpjjaaU.PrintLast Go.Proofs.YtmgnmgobibpjjaaU.PrintMore
attribute [local go_sem] max2_int min2_int max_two min_two max_three min_three max_four min_four   -- for this text's walks alone
set_option linter.unusedVariables false
set_option linter.unusedSimpArgs false

/-! ### spec_NameAsk: function 30 -/
mutual
def spec_NameAsk.j0 : Nat → List (S26) → ByteArray → Bool → Option (ByteArray × Int × Int × ByteArray × Int × Bool)
  | 0, _, _, _ => none
  | k + 1, x0, x1, x14 => if x14 = true then (some ((⟨#[]⟩ : ByteArray), 0, 0, (⟨#[]⟩ : ByteArray), 0, false)) else (spec_NameAsk.l0 k x0 x1 0)
def spec_NameAsk.l0 : Nat → List (S26) → ByteArray → Int → Option (ByteArray × Int × Int × ByteArray × Int × Bool)
  | 0, _, _, _ => none
  | k + 1, x0, x1, x6 => if x6 < (x0.length : Int) then (if 0 ≤ x6 then (if ((rd_T26 x0 x6).f0).toList = x1.toList then (some ((rd_T26 x0 x6).f0, (rd_T26 x0 x6).f1, (rd_T26 x0 x6).f2, (rd_T26 x0 x6).f3, (rd_T26 x0 x6).f4, true)) else (spec_NameAsk.l0 k x0 x1 (wrap64 (x6 + 1)))) else (none)) else (some (x1, 0, 0, (⟨#[]⟩ : ByteArray), 5, true))
end
def spec_NameAsk.f (k : Nat) (l0 : List (S26)) (a1 : ByteArray) : Option (ByteArray × Int × Int × ByteArray × Int × Bool) := (spec_NamesOk.f k l0).bind fun t134 => (if t134 = true then ((spec_l19Word.f k a1).bind fun t135 => (spec_NameAsk.j0 k l0 a1 (!t135))) else (spec_NameAsk.j0 k l0 a1 true))
theorem spec_NameAsk.mono_l : ∀ k, (∀ y0 y1 y2, LeO (spec_NameAsk.j0 k y0 y1 y2) (spec_NameAsk.j0 (k + 1) y0 y1 y2)) ∧ (∀ y0 y1 y2, LeO (spec_NameAsk.l0 k y0 y1 y2) (spec_NameAsk.l0 (k + 1) y0 y1 y2))
  | 0 => ⟨fun _ _ _ r h => by simp [spec_NameAsk.j0] at h, fun _ _ _ r h => by simp [spec_NameAsk.l0] at h⟩
  | k + 1 => by
    obtain ⟨ih0, ih1⟩ := spec_NameAsk.mono_l k
    refine ⟨?_, ?_⟩
    · intro y0 y1 y2
      unfold spec_NameAsk.j0
      repeat' first
      | (with_reducible exact ih0 _ _ _)
      | (with_reducible exact ih1 _ _ _)
      | (with_reducible exact spec_NamesOk.mono _ _)
      | (with_reducible exact spec_l19Word.mono _ _)
      | (with_reducible exact LeO.refl _)
      | (with_reducible exact LeO.none _)
      | (with_reducible refine LeO.ite ?_ ?_)
      | (with_reducible refine LeO.bind ?_ (fun _ => ?_))
      | exact ih0 _ _ _
      | exact ih1 _ _ _
      | exact spec_NamesOk.mono _ _
      | exact spec_l19Word.mono _ _
      | exact LeO.none _
      | refine LeO.ite ?_ ?_
      | refine LeO.bind ?_ (fun _ => ?_)
    · intro y0 y1 y2
      unfold spec_NameAsk.l0
      repeat' first
      | (with_reducible exact ih0 _ _ _)
      | (with_reducible exact ih1 _ _ _)
      | (with_reducible exact spec_NamesOk.mono _ _)
      | (with_reducible exact spec_l19Word.mono _ _)
      | (with_reducible exact LeO.refl _)
      | (with_reducible exact LeO.none _)
      | (with_reducible refine LeO.ite ?_ ?_)
      | (with_reducible refine LeO.bind ?_ (fun _ => ?_))
      | exact ih0 _ _ _
      | exact ih1 _ _ _
      | exact spec_NamesOk.mono _ _
      | exact spec_l19Word.mono _ _
      | exact LeO.none _
      | refine LeO.ite ?_ ?_
      | refine LeO.bind ?_ (fun _ => ?_)
theorem spec_NameAsk.mono : ∀ a0 a1 k, LeO (spec_NameAsk.f k a0 a1) (spec_NameAsk.f (k + 1) a0 a1) := by
  intro a0 a1 k
  obtain ⟨ih0, ih1⟩ := spec_NameAsk.mono_l k
  unfold spec_NameAsk.f
  repeat' first
      | (with_reducible exact ih0 _ _ _)
      | (with_reducible exact ih1 _ _ _)
      | (with_reducible exact spec_NamesOk.mono _ _)
      | (with_reducible exact spec_l19Word.mono _ _)
      | (with_reducible exact LeO.refl _)
      | (with_reducible exact LeO.none _)
      | (with_reducible refine LeO.ite ?_ ?_)
      | (with_reducible refine LeO.bind ?_ (fun _ => ?_))
      | exact ih0 _ _ _
      | exact ih1 _ _ _
      | exact spec_NamesOk.mono _ _
      | exact spec_l19Word.mono _ _
      | exact LeO.none _
      | refine LeO.ite ?_ ?_
      | refine LeO.bind ?_ (fun _ => ?_)
set_option maxHeartbeats 8000000 in
set_option maxRecDepth 100000 in
theorem spec_NameAsk.calls (k : Nat) (A0 : Option Addr) (c0 : Nat) (l0 : List (S26)) (a1 : ByteArray) (r1 : ByteArray) (r2 : Int) (r3 : Int) (r4 : ByteArray) (r5 : Int) (r6 : Bool) (w : World) (hr0 : Kd.C k26 w A0 l0.length l0) (hc0 : l0.length ≤ c0) (h : spec_NameAsk.f k l0 a1 = some (r1, r2, r3, r4, r5, r6)) :
    Calls Try.prog 30 #[.slice A0 l0.length c0, .string a1] w fun e w' => e = .returned (.tuple #[.agg #[.string r1, .int .i64 r2, .int .i64 r3, .string r4, .int .i64 r5], .bool r6]) ∧ Below w.heap.size w w' := by
  have hu26 := Try.underlying26
  have HR0 := Aside0.mk hr0
  have HC0 := Aside0.mk hc0
  clear hr0 hc0
  have HB := Aside0.mk (Below.refl w.heap.size w)
  have H : ((spec_NamesOk.f k l0).bind fun t134 => (if t134 = true then ((spec_l19Word.f k a1).bind fun t135 => (spec_NameAsk.j0 k l0 a1 (!t135))) else (spec_NameAsk.j0 k l0 a1 true))) = some (r1, r2, r3, r4, r5, r6) := h
  clear h
  have HC3 := Aside0.mk H
  clear H
  go_enter Try.func30, Try.ntmps30
  go_upto_region 1 with (first | ((with_reducible refine gate_dst (N := 4) rfl ?_); refine box_event ?hg (N := 4) ?hd (cs := #[.string (⟨#[]⟩ : ByteArray), .int .i64 0, .int .i64 0, .string (⟨#[]⟩ : ByteArray), .int .i64 0]) (t := 26) ?hr ?_; (case hd => rfl); (case hg => rfl); (case hr => exact z_1); intro gb133 hg w4 hbox hb; have n0_ := Aside0.mk (below_step (z_2) hb); have n1_ := Aside0.mk (hbox); have n2_ := Aside0.mk ((z_3 : w.heap.size ≤ gb133)); have n3_ := Aside0.mk ((z_3 : w.heap.size ≤ gb133)); clear HB; have HB := n0_; have BK133 := n1_; have GW133 := n2_; have GE133 := n3_; clear n0_ n1_ n2_ n3_; clear hb hbox hg))
  (try simp only [Act.put, List.setIfInBounds_toArray, List.set_cons_zero, List.set_cons_succ])
  go_cut [14] (fun v14 wc => ∃ (kq : Nat) (x14_2 : Bool), v14 = .bool x14_2 ∧ Aside0 (spec_NameAsk.j0 kq l0 a1 x14_2 = some (r1, r2, r3, r4, r5, r6)) ∧ Aside0 (kq ≤ k) ∧ Aside0 (wc.heap[gb133]? = some (.cells #[.string (⟨#[]⟩ : ByteArray), .int .i64 0, .int .i64 0, .string (⟨#[]⟩ : ByteArray), .int .i64 0] 26 (0, 0))) ∧ Aside0 (Below w.heap.size w wc))
  case first =>
    have H := HC3.out
    clear HC3
    replace H := Option.bind_eq_some_iff.mp H
    obtain ⟨t134, A50, H⟩ := H
    have A5 := Aside0.mk A50
    clear A50
    by_cases c6 : t134 = true
    · subst c6
      rw [if_pos rfl] at H
      replace H := Option.bind_eq_some_iff.mp H
      obtain ⟨t135, A70, H⟩ := H
      have A7 := Aside0.mk A70
      clear A70
      have H' := Aside0.mk H
      clear H
      go_wp2_with (first | ((with_reducible refine gate_callee (f := 25) rfl ?_); refine goesL_ (some 8) rfl rfl Try.func25 (z_0) rfl #[.slice A0 l0.length c0] rfl (z_8) ?_; (with_reducible refine (spec_NamesOk.calls k _ _ l0 true _ ?side1 ?side2 A5.out).mono ?_); (case side1 => exact z_32); (case side2 => exact HC0.out); rintro e w8 ⟨rfl, hb⟩; refine ⟨_, rfl, ?_⟩; have n0_ := Aside0.mk (blk_below (g := gb133) (o := .cells #[.string (⟨#[]⟩ : ByteArray), .int .i64 0, .int .i64 0, .string (⟨#[]⟩ : ByteArray), .int .i64 0] 26 (0, 0)) (z_33) hb); have n1_ := Aside0.mk (below_step (z_34) hb); clear BK133; clear HB; have BK133 := n0_; have HB := n1_; clear n0_ n1_; (try clear hb); (try clear hb2); (try clear hk); (try clear hi)) | (go_at_call 54; (with_reducible refine (spec_l19Word.calls k a1 t135 _ A7.out).mono ?_); rintro e w' ⟨rfl, ⟨nd, rfl⟩⟩))
      go_meet
      case rel => exact ⟨_, (!t135), (z_6), H', ⟨z_29⟩, ⟨z_33⟩, ⟨z_34⟩⟩
    · replace c6 := Bool.eq_false_iff.mpr c6
      subst c6
      rw [if_neg (show ¬ (false = true) by decide)] at H
      have H' := Aside0.mk H
      clear H
      go_wp2_with (first | ((with_reducible refine gate_callee (f := 25) rfl ?_); refine goesL_ (some 8) rfl rfl Try.func25 (z_0) rfl #[.slice A0 l0.length c0] rfl (z_8) ?_; (with_reducible refine (spec_NamesOk.calls k _ _ l0 false _ ?side1 ?side2 A5.out).mono ?_); (case side1 => exact z_32); (case side2 => exact HC0.out); rintro e w9 ⟨rfl, hb⟩; refine ⟨_, rfl, ?_⟩; have n0_ := Aside0.mk (blk_below (g := gb133) (o := .cells #[.string (⟨#[]⟩ : ByteArray), .int .i64 0, .int .i64 0, .string (⟨#[]⟩ : ByteArray), .int .i64 0] 26 (0, 0)) (z_33) hb); have n1_ := Aside0.mk (below_step (z_34) hb); clear BK133; clear HB; have BK133 := n0_; have HB := n1_; clear n0_ n1_; (try clear hb); (try clear hb2); (try clear hk); (try clear hi)))
      go_meet
      case rel => exact ⟨_, (true), (z_6), H', ⟨z_29⟩, ⟨z_33⟩, ⟨z_34⟩⟩
  case rest =>
    clear HC3
    try clear c2
    try clear p2
    try clear c3
    try clear c6
    obtain ⟨kq, x14_2, rfl, HA, HJ2, BK133, HB⟩ := hcut
    cases kq with
    | zero => exact absurd HA.out (by simp [spec_NameAsk.j0])
    | succ kj2 =>
      have H := HA.out
      clear HA
      simp only [spec_NameAsk.j0] at H
      by_cases c10 : x14_2 = true
      · subst c10
        rw [if_pos rfl] at H
        simp only [Option.some.injEq, Prod.mk.injEq] at H
        obtain ⟨rfl, rfl, rfl, rfl, rfl, rfl⟩ := H
        have hcz11_0 : wc.cell? ⟨gb133, 0, none⟩ = some (.string (⟨#[]⟩ : ByteArray)) := (blk_cell BK133.out 0).trans rfl
        have hcz11_1 : wc.cell? ⟨gb133, 1, none⟩ = some (.int .i64 0) := (blk_cell BK133.out 1).trans rfl
        have hcz11_2 : wc.cell? ⟨gb133, 2, none⟩ = some (.int .i64 0) := (blk_cell BK133.out 2).trans rfl
        have hcz11_3 : wc.cell? ⟨gb133, 3, none⟩ = some (.string (⟨#[]⟩ : ByteArray)) := (blk_cell BK133.out 3).trans rfl
        have hcz11_4 : wc.cell? ⟨gb133, 4, none⟩ = some (.int .i64 0) := (blk_cell BK133.out 4).trans rfl
        have hfz11_0 := blk_frozen BK133.out 0
        have hfz11_1 := blk_frozen BK133.out 1
        have hfz11_2 := blk_frozen BK133.out 2
        have hfz11_3 := blk_frozen BK133.out 3
        have hfz11_4 := blk_frozen BK133.out 4
        go_wp2
        refine bodyPost_ret (results_ct rfl _ _ gb133 26 #[.string (⟨#[]⟩ : ByteArray), .int .i64 0, .int .i64 0, .string (⟨#[]⟩ : ByteArray), .int .i64 0] (0, 0) _ rfl (by (with_reducible repeat (first | refine blk_drewN ?_ _ | refine blk_drew ?_ | refine blk_alloc ?_ _)); refine blk_put (cs := #[.string (⟨#[]⟩ : ByteArray), .int .i64 0, .int .i64 0, .string (⟨#[]⟩ : ByteArray), .int .i64 0]) ?_ 4 _ rfl; (with_reducible repeat (first | refine blk_drewN ?_ _ | refine blk_drew ?_ | refine blk_alloc ?_ _)); refine blk_put (cs := #[.string (⟨#[]⟩ : ByteArray), .int .i64 0, .int .i64 0, .string (⟨#[]⟩ : ByteArray), .int .i64 0]) ?_ 3 _ rfl; (with_reducible repeat (first | refine blk_drewN ?_ _ | refine blk_drew ?_ | refine blk_alloc ?_ _)); refine blk_put (cs := #[.string (⟨#[]⟩ : ByteArray), .int .i64 0, .int .i64 0, .string (⟨#[]⟩ : ByteArray), .int .i64 0]) ?_ 2 _ rfl; (with_reducible repeat (first | refine blk_drewN ?_ _ | refine blk_drew ?_ | refine blk_alloc ?_ _)); refine blk_put (cs := #[.string (⟨#[]⟩ : ByteArray), .int .i64 0, .int .i64 0, .string (⟨#[]⟩ : ByteArray), .int .i64 0]) ?_ 1 _ rfl; (with_reducible repeat (first | refine blk_drewN ?_ _ | refine blk_drew ?_ | refine blk_alloc ?_ _)); refine blk_put (cs := #[.string (⟨#[]⟩ : ByteArray), .int .i64 0, .int .i64 0, .string (⟨#[]⟩ : ByteArray), .int .i64 0]) ?_ 0 _ rfl; (with_reducible repeat (first | refine blk_drewN ?_ _ | refine blk_drew ?_ | refine blk_alloc ?_ _)); exact BK133.out) Try.underlying26 rfl (z_0)) rfl ?_
        exact ⟨z_4, z_34⟩
      · replace c10 := Bool.eq_false_iff.mpr c10
        subst c10
        rw [if_neg (show ¬ (false = true) by decide)] at H
        have H' := Aside0.mk H
        clear H
        go_wp2
        go_loopg [6] kj2 (fun kq v6 w' => ∃ (x6_2 : Int) (x134000_2 : ByteArray) (x134001_2 : Int) (x134002_2 : Int) (x134003_2 : ByteArray) (x134004_2 : Int), v6 = .int .i64 x6_2 ∧ Aside0 (spec_NameAsk.l0 kq l0 a1 x6_2 = some (r1, r2, r3, r4, r5, r6)) ∧ Aside0 (kq ≤ kj2) ∧ Aside0 (w'.heap[gb133]? = some (.cells #[.string x134000_2, .int .i64 x134001_2, .int .i64 x134002_2, .string x134003_2, .int .i64 x134004_2] 26 (0, 0))) ∧ Aside0 (Below w.heap.size w w'))
        case atStart => exact ⟨(0), ((⟨#[]⟩ : ByteArray)), (0), (0), ((⟨#[]⟩ : ByteArray)), (0), (z_6), H', ⟨Nat.le_refl _⟩, ⟨z_33⟩, ⟨z_34⟩⟩
        case round =>
          clear H'
          try clear c1
          try clear c2
          try clear p2
          try clear c3
          try clear c6
          try clear c10
          try clear hcz11_0
          try clear hcz11_1
          try clear hcz11_2
          try clear hcz11_3
          try clear hcz11_4
          try clear hfz11_0
          try clear hfz11_1
          try clear hfz11_2
          try clear hfz11_3
          try clear hfz11_4
          try clear p2
          obtain ⟨x6_2, x134000_2, x134001_2, x134002_2, x134003_2, x134004_2, rfl, HA, HK2, BK133, HB⟩ := hrel
          cases gk with
          | zero => exact absurd HA.out (by simp [spec_NameAsk.l0])
          | succ k2 =>
            have H := HA.out
            clear HA
            simp only [spec_NameAsk.l0] at H
            by_cases c12 : x6_2 < (l0.length : Int)
            · rw [if_pos c12] at H
              have c12b0 : decide (x6_2 < (l0.length : Int)) = true := decide_eq_true c12
              clear c12
              by_cases c13 : 0 ≤ x6_2
              · rw [if_pos c13] at H
                have c13b0 : decide (0 ≤ x6_2) = true := decide_eq_true c13
                clear c13
                by_cases c14 : ((rd_T26 l0 x6_2).f0).toList = a1.toList
                · rw [if_pos c14] at H
                  have c14b0 : (((rd_T26 l0 x6_2).f0).toList == a1.toList) = true := beq_iff_eq.mpr c14
                  have c14b1 : (((rd_T26 l0 x6_2).f0).toList != a1.toList) = false := bne_eq_false_iff_eq.mpr c14
                  clear c14
                  simp only [Option.some.injEq, Prod.mk.injEq] at H
                  obtain ⟨rfl, rfl, rfl, rfl, rfl, rfl⟩ := H
                  have p136 : 0 ≤ (x6_2 : Int) := of_decide_eq_true (z_7)
                  have q136 : x6_2 < (l0.length : Int) := of_decide_eq_true (z_7)
                  obtain ⟨ad136, e136, hx136_0, hx136_1, hx136_2, hx136_3, hx136_4⟩ := at_T26 HR0.out x6_2 p136 q136
                  cases e136
                  replace hx136_0 := (HB.out.cell (World.block_lt_of_cell? w _ hx136_0)).trans hx136_0
                  replace hx136_1 := (HB.out.cell (World.block_lt_of_cell? w _ hx136_1)).trans hx136_1
                  replace hx136_2 := (HB.out.cell (World.block_lt_of_cell? w _ hx136_2)).trans hx136_2
                  replace hx136_3 := (HB.out.cell (World.block_lt_of_cell? w _ hx136_3)).trans hx136_3
                  replace hx136_4 := (HB.out.cell (World.block_lt_of_cell? w _ hx136_4)).trans hx136_4
                  replace p136 := eq_true p136
                  replace q136 := eq_true q136
                  have p137 : 0 ≤ (x6_2 : Int) := of_decide_eq_true (z_7)
                  have q137 : x6_2 < (l0.length : Int) := of_decide_eq_true (z_7)
                  obtain ⟨ad137, e137, hx137_0, hx137_1, hx137_2, hx137_3, hx137_4⟩ := at_T26 HR0.out x6_2 p137 q137
                  obtain rfl : ad136 = ad137 := (by injection e137)
                  replace hx137_0 := (HB.out.cell (World.block_lt_of_cell? w _ hx137_0)).trans hx137_0
                  replace hx137_1 := (HB.out.cell (World.block_lt_of_cell? w _ hx137_1)).trans hx137_1
                  replace hx137_2 := (HB.out.cell (World.block_lt_of_cell? w _ hx137_2)).trans hx137_2
                  replace hx137_3 := (HB.out.cell (World.block_lt_of_cell? w _ hx137_3)).trans hx137_3
                  replace hx137_4 := (HB.out.cell (World.block_lt_of_cell? w _ hx137_4)).trans hx137_4
                  replace p137 := eq_true p137
                  replace q137 := eq_true q137
                  have hcz15_0 : wr.cell? ⟨gb133, 0, none⟩ = some (.string x134000_2) := (blk_cell BK133.out 0).trans rfl
                  have hcz15_1 : wr.cell? ⟨gb133, 1, none⟩ = some (.int .i64 x134001_2) := (blk_cell BK133.out 1).trans rfl
                  have hcz15_2 : wr.cell? ⟨gb133, 2, none⟩ = some (.int .i64 x134002_2) := (blk_cell BK133.out 2).trans rfl
                  have hcz15_3 : wr.cell? ⟨gb133, 3, none⟩ = some (.string x134003_2) := (blk_cell BK133.out 3).trans rfl
                  have hcz15_4 : wr.cell? ⟨gb133, 4, none⟩ = some (.int .i64 x134004_2) := (blk_cell BK133.out 4).trans rfl
                  have hfz15_0 := blk_frozen BK133.out 0
                  have hfz15_1 := blk_frozen BK133.out 1
                  have hfz15_2 := blk_frozen BK133.out 2
                  have hfz15_3 := blk_frozen BK133.out 3
                  have hfz15_4 := blk_frozen BK133.out 4
                  go_wp2
                  refine bodyPost_ret (results_ct rfl _ _ gb133 26 #[.string ((rd_T26 l0 x6_2).f0), .int .i64 ((rd_T26 l0 x6_2).f1), .int .i64 ((rd_T26 l0 x6_2).f2), .string ((rd_T26 l0 x6_2).f3), .int .i64 ((rd_T26 l0 x6_2).f4)] (0, 0) _ rfl (by (with_reducible repeat (first | refine blk_drewN ?_ _ | refine blk_drew ?_ | refine blk_alloc ?_ _)); refine blk_put (cs := #[.string ((rd_T26 l0 x6_2).f0), .int .i64 ((rd_T26 l0 x6_2).f1), .int .i64 ((rd_T26 l0 x6_2).f2), .string ((rd_T26 l0 x6_2).f3), .int .i64 x134004_2]) ?_ 4 _ rfl; (with_reducible repeat (first | refine blk_drewN ?_ _ | refine blk_drew ?_ | refine blk_alloc ?_ _)); refine blk_put (cs := #[.string ((rd_T26 l0 x6_2).f0), .int .i64 ((rd_T26 l0 x6_2).f1), .int .i64 ((rd_T26 l0 x6_2).f2), .string x134003_2, .int .i64 x134004_2]) ?_ 3 _ rfl; (with_reducible repeat (first | refine blk_drewN ?_ _ | refine blk_drew ?_ | refine blk_alloc ?_ _)); refine blk_put (cs := #[.string ((rd_T26 l0 x6_2).f0), .int .i64 ((rd_T26 l0 x6_2).f1), .int .i64 x134002_2, .string x134003_2, .int .i64 x134004_2]) ?_ 2 _ rfl; (with_reducible repeat (first | refine blk_drewN ?_ _ | refine blk_drew ?_ | refine blk_alloc ?_ _)); refine blk_put (cs := #[.string ((rd_T26 l0 x6_2).f0), .int .i64 x134001_2, .int .i64 x134002_2, .string x134003_2, .int .i64 x134004_2]) ?_ 1 _ rfl; (with_reducible repeat (first | refine blk_drewN ?_ _ | refine blk_drew ?_ | refine blk_alloc ?_ _)); refine blk_put (cs := #[.string x134000_2, .int .i64 x134001_2, .int .i64 x134002_2, .string x134003_2, .int .i64 x134004_2]) ?_ 0 _ rfl; (with_reducible repeat (first | refine blk_drewN ?_ _ | refine blk_drew ?_ | refine blk_alloc ?_ _)); exact BK133.out) Try.underlying26 rfl (z_0)) rfl ?_
                  exact ⟨z_4, z_34⟩
                · rw [if_neg c14] at H
                  have c14b0 : (((rd_T26 l0 x6_2).f0).toList == a1.toList) = false := beq_eq_false_iff_ne.mpr c14
                  have c14b1 : (((rd_T26 l0 x6_2).f0).toList != a1.toList) = true := bne_iff_ne.mpr c14
                  have H' := Aside0.mk H
                  clear H
                  have p136 : 0 ≤ (x6_2 : Int) := of_decide_eq_true (z_7)
                  have q136 : x6_2 < (l0.length : Int) := of_decide_eq_true (z_7)
                  obtain ⟨ad136, e136, hx136_0, hx136_1, hx136_2, hx136_3, hx136_4⟩ := at_T26 HR0.out x6_2 p136 q136
                  cases e136
                  replace hx136_0 := (HB.out.cell (World.block_lt_of_cell? w _ hx136_0)).trans hx136_0
                  replace hx136_1 := (HB.out.cell (World.block_lt_of_cell? w _ hx136_1)).trans hx136_1
                  replace hx136_2 := (HB.out.cell (World.block_lt_of_cell? w _ hx136_2)).trans hx136_2
                  replace hx136_3 := (HB.out.cell (World.block_lt_of_cell? w _ hx136_3)).trans hx136_3
                  replace hx136_4 := (HB.out.cell (World.block_lt_of_cell? w _ hx136_4)).trans hx136_4
                  replace p136 := eq_true p136
                  replace q136 := eq_true q136
                  go_wp2
                  go_roundg k2
                  case measure => have := HJ2.out; have := HK2.out; omega
                  case rel => exact ⟨(wrap64 (x6_2 + 1)), (x134000_2), (x134001_2), (x134002_2), (x134003_2), (x134004_2), (z_6), H', ⟨by have := HJ2.out; have := HK2.out; omega⟩, ⟨z_33⟩, ⟨z_34⟩⟩
              · rw [if_neg c13] at H
                exact absurd H (by simp)
            · rw [if_neg c12] at H
              have c12b0 : decide (x6_2 < (l0.length : Int)) = false := decide_eq_false c12
              clear c12
              simp only [Option.some.injEq, Prod.mk.injEq] at H
              obtain ⟨rfl, rfl, rfl, rfl, rfl, rfl⟩ := H
              have hcz16_0 : wr.cell? ⟨gb133, 0, none⟩ = some (.string x134000_2) := (blk_cell BK133.out 0).trans rfl
              have hcz16_1 : wr.cell? ⟨gb133, 1, none⟩ = some (.int .i64 x134001_2) := (blk_cell BK133.out 1).trans rfl
              have hcz16_2 : wr.cell? ⟨gb133, 2, none⟩ = some (.int .i64 x134002_2) := (blk_cell BK133.out 2).trans rfl
              have hcz16_3 : wr.cell? ⟨gb133, 3, none⟩ = some (.string x134003_2) := (blk_cell BK133.out 3).trans rfl
              have hcz16_4 : wr.cell? ⟨gb133, 4, none⟩ = some (.int .i64 x134004_2) := (blk_cell BK133.out 4).trans rfl
              have hfz16_0 := blk_frozen BK133.out 0
              have hfz16_1 := blk_frozen BK133.out 1
              have hfz16_2 := blk_frozen BK133.out 2
              have hfz16_3 := blk_frozen BK133.out 3
              have hfz16_4 := blk_frozen BK133.out 4
              go_wp2
              refine bodyPost_ret (results_ct rfl _ _ gb133 26 #[.string a1, .int .i64 0, .int .i64 0, .string (⟨#[]⟩ : ByteArray), .int .i64 5] (0, 0) _ rfl (by (with_reducible repeat (first | refine blk_drewN ?_ _ | refine blk_drew ?_ | refine blk_alloc ?_ _)); refine blk_put (cs := #[.string a1, .int .i64 0, .int .i64 0, .string (⟨#[]⟩ : ByteArray), .int .i64 x134004_2]) ?_ 4 _ rfl; (with_reducible repeat (first | refine blk_drewN ?_ _ | refine blk_drew ?_ | refine blk_alloc ?_ _)); refine blk_put (cs := #[.string a1, .int .i64 0, .int .i64 0, .string x134003_2, .int .i64 x134004_2]) ?_ 3 _ rfl; (with_reducible repeat (first | refine blk_drewN ?_ _ | refine blk_drew ?_ | refine blk_alloc ?_ _)); refine blk_put (cs := #[.string a1, .int .i64 0, .int .i64 x134002_2, .string x134003_2, .int .i64 x134004_2]) ?_ 2 _ rfl; (with_reducible repeat (first | refine blk_drewN ?_ _ | refine blk_drew ?_ | refine blk_alloc ?_ _)); refine blk_put (cs := #[.string a1, .int .i64 x134001_2, .int .i64 x134002_2, .string x134003_2, .int .i64 x134004_2]) ?_ 1 _ rfl; (with_reducible repeat (first | refine blk_drewN ?_ _ | refine blk_drew ?_ | refine blk_alloc ?_ _)); refine blk_put (cs := #[.string x134000_2, .int .i64 x134001_2, .int .i64 x134002_2, .string x134003_2, .int .i64 x134004_2]) ?_ 0 _ rfl; (with_reducible repeat (first | refine blk_drewN ?_ _ | refine blk_drew ?_ | refine blk_alloc ?_ _)); exact BK133.out) Try.underlying26 rfl (z_0)) rfl ?_
              exact ⟨z_4, z_34⟩

/-! ### spec_NameFind: function 39 -/
mutual
def spec_NameFind.l0 : Nat → List (S26) → ByteArray → Int → Option (Int × Bool)
  | 0, _, _, _ => none
  | k + 1, x0, x1, x6 => if x6 ≤ 4 then ((spec_NameAsk.f k x0 x1).bind fun bt138 => (if bt138.2.2.2.2.2 = true then (spec_NameFind.j1 k x0 x6 (bt138.2.1 == 0) bt138.1 bt138.2.1 bt138.2.2.1 bt138.2.2.2.1 bt138.2.2.2.2.1) else (spec_NameFind.j1 k x0 x6 true bt138.1 bt138.2.1 bt138.2.2.1 bt138.2.2.2.1 bt138.2.2.2.2.1))) else (some (0, false))
def spec_NameFind.j1 : Nat → List (S26) → Int → Bool → ByteArray → Int → Int → ByteArray → Int → Option (Int × Bool)
  | 0, _, _, _, _, _, _, _, _ => none
  | k + 1, x0, x6, x25, x145000, x145001, x145002, x145003, x145004 => if x25 = true then (some (0, false)) else (if x145001 = 1 then (some (x145002, true)) else (spec_NameFind.l0 k x0 x145003 (wrap64 (x6 + 1))))
end
def spec_NameFind.f (k : Nat) (l0 : List (S26)) (a1 : ByteArray) : Option (Int × Bool) := spec_NameFind.l0 k l0 a1 0
theorem spec_NameFind.mono_l : ∀ k, (∀ y0 y1 y2, LeO (spec_NameFind.l0 k y0 y1 y2) (spec_NameFind.l0 (k + 1) y0 y1 y2)) ∧ (∀ y0 y1 y2 y3 y4 y5 y6 y7, LeO (spec_NameFind.j1 k y0 y1 y2 y3 y4 y5 y6 y7) (spec_NameFind.j1 (k + 1) y0 y1 y2 y3 y4 y5 y6 y7))
  | 0 => ⟨fun _ _ _ r h => by simp [spec_NameFind.l0] at h, fun _ _ _ _ _ _ _ _ r h => by simp [spec_NameFind.j1] at h⟩
  | k + 1 => by
    obtain ⟨ih0, ih1⟩ := spec_NameFind.mono_l k
    refine ⟨?_, ?_⟩
    · intro y0 y1 y2
      unfold spec_NameFind.l0
      repeat' first
      | (with_reducible exact ih0 _ _ _)
      | (with_reducible exact ih1 _ _ _ _ _ _ _ _)
      | (with_reducible exact spec_NameAsk.mono _ _ _)
      | (with_reducible exact LeO.refl _)
      | (with_reducible exact LeO.none _)
      | (with_reducible refine LeO.ite ?_ ?_)
      | (with_reducible refine LeO.bind ?_ (fun _ => ?_))
      | exact ih0 _ _ _
      | exact ih1 _ _ _ _ _ _ _ _
      | exact spec_NameAsk.mono _ _ _
      | exact LeO.none _
      | refine LeO.ite ?_ ?_
      | refine LeO.bind ?_ (fun _ => ?_)
    · intro y0 y1 y2 y3 y4 y5 y6 y7
      unfold spec_NameFind.j1
      repeat' first
      | (with_reducible exact ih0 _ _ _)
      | (with_reducible exact ih1 _ _ _ _ _ _ _ _)
      | (with_reducible exact spec_NameAsk.mono _ _ _)
      | (with_reducible exact LeO.refl _)
      | (with_reducible exact LeO.none _)
      | (with_reducible refine LeO.ite ?_ ?_)
      | (with_reducible refine LeO.bind ?_ (fun _ => ?_))
      | exact ih0 _ _ _
      | exact ih1 _ _ _ _ _ _ _ _
      | exact spec_NameAsk.mono _ _ _
      | exact LeO.none _
      | refine LeO.ite ?_ ?_
      | refine LeO.bind ?_ (fun _ => ?_)
theorem spec_NameFind.mono : ∀ a0 a1 k, LeO (spec_NameFind.f k a0 a1) (spec_NameFind.f (k + 1) a0 a1) := by
  intro a0 a1 k
  obtain ⟨ih0, ih1⟩ := spec_NameFind.mono_l k
  unfold spec_NameFind.f
  repeat' first
      | (with_reducible exact ih0 _ _ _)
      | (with_reducible exact ih1 _ _ _ _ _ _ _ _)
      | (with_reducible exact spec_NameAsk.mono _ _ _)
      | (with_reducible exact LeO.refl _)
      | (with_reducible exact LeO.none _)
      | (with_reducible refine LeO.ite ?_ ?_)
      | (with_reducible refine LeO.bind ?_ (fun _ => ?_))
      | exact ih0 _ _ _
      | exact ih1 _ _ _ _ _ _ _ _
      | exact spec_NameAsk.mono _ _ _
      | exact LeO.none _
      | refine LeO.ite ?_ ?_
      | refine LeO.bind ?_ (fun _ => ?_)
set_option maxHeartbeats 8000000 in
set_option maxRecDepth 100000 in
theorem spec_NameFind.calls (k : Nat) (A0 : Option Addr) (c0 : Nat) (l0 : List (S26)) (a1 : ByteArray) (r1 : Int) (r2 : Bool) (w : World) (hr0 : Kd.C k26 w A0 l0.length l0) (hc0 : l0.length ≤ c0) (h : spec_NameFind.f k l0 a1 = some (r1, r2)) :
    Calls Try.prog 39 #[.slice A0 l0.length c0, .string a1] w fun e w' => e = .returned (.tuple #[.int .i64 r1, .bool r2]) ∧ Below w.heap.size w w' := by
  have hu26 := Try.underlying26
  have HR0 := Aside0.mk hr0
  have HC0 := Aside0.mk hc0
  clear hr0 hc0
  have HB := Aside0.mk (Below.refl w.heap.size w)
  have H : (spec_NameFind.l0 k l0 a1 0) = some (r1, r2) := h
  clear h
  have H' := Aside0.mk H
  clear H
  go_enter Try.func39, Try.ntmps39
  go_wp2
  go_loopg [1, 6] k (fun kq v1 v6 w' => ∃ (x1_1 : ByteArray) (x6_1 : Int), v1 = .string x1_1 ∧ v6 = .int .i64 x6_1 ∧ Aside0 (spec_NameFind.l0 kq l0 x1_1 x6_1 = some (r1, r2)) ∧ Aside0 (kq ≤ k) ∧ Aside0 (Below w.heap.size w w'))
  case atStart => exact ⟨(a1), (0), (z_6), (z_6), H', ⟨Nat.le_refl _⟩, ⟨z_2⟩⟩
  case round =>
    clear H'
    try clear p2
    obtain ⟨x1_1, x6_1, rfl, rfl, HA, HK1, HB⟩ := hrel
    cases gk with
    | zero => exact absurd HA.out (by simp [spec_NameFind.l0])
    | succ k1 =>
      have H := HA.out
      clear HA
      simp only [spec_NameFind.l0] at H
      by_cases c3 : x6_1 ≤ 4
      · rw [if_pos c3] at H
        have c3b0 : decide (x6_1 ≤ 4) = true := decide_eq_true c3
        clear c3
        replace H := Option.bind_eq_some_iff.mp H
        obtain ⟨⟨t138, t139, t140, t141, t142, t143⟩, A40, H⟩ := H
        replace H : (if t143 = true then (spec_NameFind.j1 k1 l0 x6_1 (t139 == 0) t138 t139 t140 t141 t142) else (spec_NameFind.j1 k1 l0 x6_1 true t138 t139 t140 t141 t142)) = some (r1, r2) := H
        have A4 := Aside0.mk A40
        clear A40
        have HC5 := Aside0.mk H
        clear H
        go_upto_region 5 with (first | ((with_reducible refine gate_callee (f := 30) rfl ?_); refine goesL_ (some 16) rfl rfl Try.func30 (z_0) rfl #[.slice A0 l0.length c0, .string x1_1] rfl (z_8) ?_; (with_reducible refine (spec_NameAsk.calls k1 _ _ l0 x1_1 t138 t139 t140 t141 t142 t143 _ ?side1 ?side2 A4.out).mono ?_); (case side1 => exact z_32); (case side2 => exact HC0.out); rintro e w6 ⟨rfl, hb⟩; refine ⟨_, rfl, ?_⟩; have n0_ := Aside0.mk (below_step (z_2) hb); clear HB; have HB := n0_; clear n0_; (try clear hb); (try clear hb2); (try clear hk); (try clear hi)) | ((with_reducible refine gate_dst (N := 7) rfl ?_); refine box_event ?hg (N := 7) ?hd (cs := #[.string (⟨#[]⟩ : ByteArray), .int .i64 0, .int .i64 0, .string (⟨#[]⟩ : ByteArray), .int .i64 0]) (t := 26) ?hr ?_; (case hd => rfl); (case hg => rfl); (case hr => exact z_1); intro gb144 hg w7 hbox hb; have n0_ := Aside0.mk (below_step (z_2) hb); have n1_ := Aside0.mk (hbox); have n2_ := Aside0.mk ((z_3 : w.heap.size ≤ gb144)); have n3_ := Aside0.mk ((z_3 : w.heap.size ≤ gb144)); clear HB; have HB := n0_; have BK144 := n1_; have GW144 := n2_; have GE144 := n3_; clear n0_ n1_ n2_ n3_; clear hb hbox hg; have hcz8_0 : w7.cell? ⟨gb144, 0, none⟩ = some (.string (⟨#[]⟩ : ByteArray)) := (blk_cell BK144.out 0).trans rfl; have hcz8_1 : w7.cell? ⟨gb144, 1, none⟩ = some (.int .i64 0) := (blk_cell BK144.out 1).trans rfl; have hcz8_2 : w7.cell? ⟨gb144, 2, none⟩ = some (.int .i64 0) := (blk_cell BK144.out 2).trans rfl; have hcz8_3 : w7.cell? ⟨gb144, 3, none⟩ = some (.string (⟨#[]⟩ : ByteArray)) := (blk_cell BK144.out 3).trans rfl; have hcz8_4 : w7.cell? ⟨gb144, 4, none⟩ = some (.int .i64 0) := (blk_cell BK144.out 4).trans rfl; have hfz8_0 := blk_frozen BK144.out 0; have hfz8_1 := blk_frozen BK144.out 1; have hfz8_2 := blk_frozen BK144.out 2; have hfz8_3 := blk_frozen BK144.out 3; have hfz8_4 := blk_frozen BK144.out 4))
        (try simp only [Act.put, List.setIfInBounds_toArray, List.set_cons_zero, List.set_cons_succ])
        go_cut [25] (fun v25 wc => ∃ (kq : Nat) (x25_4 : Bool), v25 = .bool x25_4 ∧ Aside0 (spec_NameFind.j1 kq l0 x6_1 x25_4 t138 t139 t140 t141 t142 = some (r1, r2)) ∧ Aside0 (kq ≤ k1) ∧ Aside0 (wc.heap[gb144]? = some (.cells #[.string t138, .int .i64 t139, .int .i64 t140, .string t141, .int .i64 t142] 26 (0, 0))) ∧ Aside0 (Below w.heap.size w wc))
        case first =>
          have H := HC5.out
          clear HC5
          by_cases c9 : t143 = true
          · subst c9
            rw [if_pos rfl] at H
            have H' := Aside0.mk H
            clear H
            have hcz10_0 : w7.cell? ⟨gb144, 0, none⟩ = some (.string (⟨#[]⟩ : ByteArray)) := (blk_cell BK144.out 0).trans rfl
            have hcz10_1 : w7.cell? ⟨gb144, 1, none⟩ = some (.int .i64 0) := (blk_cell BK144.out 1).trans rfl
            have hcz10_2 : w7.cell? ⟨gb144, 2, none⟩ = some (.int .i64 0) := (blk_cell BK144.out 2).trans rfl
            have hcz10_3 : w7.cell? ⟨gb144, 3, none⟩ = some (.string (⟨#[]⟩ : ByteArray)) := (blk_cell BK144.out 3).trans rfl
            have hcz10_4 : w7.cell? ⟨gb144, 4, none⟩ = some (.int .i64 0) := (blk_cell BK144.out 4).trans rfl
            have hfz10_0 := blk_frozen BK144.out 0
            have hfz10_1 := blk_frozen BK144.out 1
            have hfz10_2 := blk_frozen BK144.out 2
            have hfz10_3 := blk_frozen BK144.out 3
            have hfz10_4 := blk_frozen BK144.out 4
            go_wp2
            go_meet
            case rel => exact ⟨_, ((t139 == 0)), (z_6), H', ⟨by have := HK1.out; first | omega | exact Nat.le_refl _⟩, ⟨z_35⟩, ⟨z_36⟩⟩
          · replace c9 := Bool.eq_false_iff.mpr c9
            subst c9
            rw [if_neg (show ¬ (false = true) by decide)] at H
            have H' := Aside0.mk H
            clear H
            go_wp2
            go_meet
            case rel => exact ⟨_, (true), (z_6), H', ⟨by have := HK1.out; first | omega | exact Nat.le_refl _⟩, ⟨z_35⟩, ⟨z_36⟩⟩
        case rest =>
          clear HC5
          try clear p2
          try clear c3
          try clear c3b0
          try clear c9
          try clear hcz10_0
          try clear hcz10_1
          try clear hcz10_2
          try clear hcz10_3
          try clear hcz10_4
          try clear hcz8_0
          try clear hcz8_1
          try clear hcz8_2
          try clear hcz8_3
          try clear hcz8_4
          try clear hfz10_0
          try clear hfz10_1
          try clear hfz10_2
          try clear hfz10_3
          try clear hfz10_4
          try clear hfz8_0
          try clear hfz8_1
          try clear hfz8_2
          try clear hfz8_3
          try clear hfz8_4
          try clear p2
          obtain ⟨kq, x25_4, rfl, HA, HJ4, BK144, HB⟩ := hcut
          cases kq with
          | zero => exact absurd HA.out (by simp [spec_NameFind.j1])
          | succ kj4 =>
            have H := HA.out
            clear HA
            simp only [spec_NameFind.j1] at H
            by_cases c11 : x25_4 = true
            · subst c11
              rw [if_pos rfl] at H
              simp only [Option.some.injEq, Prod.mk.injEq] at H
              obtain ⟨rfl, rfl⟩ := H
              go_wp2
              go_ret2
              exact ⟨z_4, z_36⟩
            · replace c11 := Bool.eq_false_iff.mpr c11
              subst c11
              rw [if_neg (show ¬ (false = true) by decide)] at H
              by_cases c12 : t139 = 1
              · rw [if_pos c12] at H
                have c12b0 : (t139 == 1) = true := beq_iff_eq.mpr c12
                have c12b1 : (t139 != 1) = false := bne_eq_false_iff_eq.mpr c12
                clear c12
                simp only [Option.some.injEq, Prod.mk.injEq] at H
                obtain ⟨rfl, rfl⟩ := H
                have hcz13_0 : wc.cell? ⟨gb144, 0, none⟩ = some (.string t138) := (blk_cell BK144.out 0).trans rfl
                have hcz13_1 : wc.cell? ⟨gb144, 1, none⟩ = some (.int .i64 t139) := (blk_cell BK144.out 1).trans rfl
                have hcz13_2 : wc.cell? ⟨gb144, 2, none⟩ = some (.int .i64 t140) := (blk_cell BK144.out 2).trans rfl
                have hcz13_3 : wc.cell? ⟨gb144, 3, none⟩ = some (.string t141) := (blk_cell BK144.out 3).trans rfl
                have hcz13_4 : wc.cell? ⟨gb144, 4, none⟩ = some (.int .i64 t142) := (blk_cell BK144.out 4).trans rfl
                have hfz13_0 := blk_frozen BK144.out 0
                have hfz13_1 := blk_frozen BK144.out 1
                have hfz13_2 := blk_frozen BK144.out 2
                have hfz13_3 := blk_frozen BK144.out 3
                have hfz13_4 := blk_frozen BK144.out 4
                go_wp2
                go_ret2
                exact ⟨z_4, z_36⟩
              · rw [if_neg c12] at H
                have c12b0 : (t139 == 1) = false := beq_eq_false_iff_ne.mpr c12
                have c12b1 : (t139 != 1) = true := bne_iff_ne.mpr c12
                have H' := Aside0.mk H
                clear H
                have hcz14_0 : wc.cell? ⟨gb144, 0, none⟩ = some (.string t138) := (blk_cell BK144.out 0).trans rfl
                have hcz14_1 : wc.cell? ⟨gb144, 1, none⟩ = some (.int .i64 t139) := (blk_cell BK144.out 1).trans rfl
                have hcz14_2 : wc.cell? ⟨gb144, 2, none⟩ = some (.int .i64 t140) := (blk_cell BK144.out 2).trans rfl
                have hcz14_3 : wc.cell? ⟨gb144, 3, none⟩ = some (.string t141) := (blk_cell BK144.out 3).trans rfl
                have hcz14_4 : wc.cell? ⟨gb144, 4, none⟩ = some (.int .i64 t142) := (blk_cell BK144.out 4).trans rfl
                have hfz14_0 := blk_frozen BK144.out 0
                have hfz14_1 := blk_frozen BK144.out 1
                have hfz14_2 := blk_frozen BK144.out 2
                have hfz14_3 := blk_frozen BK144.out 3
                have hfz14_4 := blk_frozen BK144.out 4
                go_wp2
                go_roundg kj4
                case measure => have := HK1.out; have := HJ4.out; omega
                case rel => exact ⟨(t141), (wrap64 (x6_1 + 1)), (z_6), (z_6), H', ⟨by have := HK1.out; have := HJ4.out; omega⟩, ⟨z_36⟩⟩
      · rw [if_neg c3] at H
        have c3b0 : decide (x6_1 ≤ 4) = false := decide_eq_false c3
        clear c3
        simp only [Option.some.injEq, Prod.mk.injEq] at H
        obtain ⟨rfl, rfl⟩ := H
        go_wp2
        go_ret2
        exact ⟨z_4, z_2⟩

/-! ### impl_in: function 57 -/
def impl_in.f (a0 : Int) (a1 : Int) (a2 : Int) : Option (Bool) := if a0 ≥ a1 then (some (decide (a0 ≤ a2))) else (some false)
set_option maxHeartbeats 8000000 in
set_option maxRecDepth 100000 in
theorem impl_in.calls (a0 : Int) (a1 : Int) (a2 : Int) (r : Bool) (w : World) (h : impl_in.f a0 a1 a2 = some r) :
    Calls Try.prog 57 #[.int .i64 a0, .int .i64 a1, .int .i64 a2] w fun e w' => e = .returned (.bool r) ∧ Drawn0 w w' := by
  have H : (if a0 ≥ a1 then (some (decide (a0 ≤ a2))) else (some false)) = some r := h
  clear h
  by_cases c4 : a0 ≥ a1
  · rw [if_pos c4] at H
    have c4b0 : decide (a1 ≤ a0) = true := decide_eq_true c4
    clear c4
    obtain rfl := Option.some.inj H
    go_enter Try.func57, Try.ntmps57
    go_wp2
    go_ret
    exact ⟨z_6, z_28⟩
  · rw [if_neg c4] at H
    have c4b0 : decide (a1 ≤ a0) = false := decide_eq_false c4
    clear c4
    obtain rfl := Option.some.inj H
    go_enter Try.func57, Try.ntmps57
    go_wp2
    go_ret
    exact ⟨z_6, z_28⟩

/-! ### impl_textOk: function 56 -/
def impl_textOk.l0 : Nat → ByteArray → List Int → Int → Int → Option (Bool)
  | 0, _, _, _, _ => none
  | k + 1, x0, x6, x7, x8 => if x8 < x7 then (if 0 ≤ x8 then (if x8 < (x6.length : Int) then (if (rd x6 x8) < 97 then (some false) else (if (rd x6 x8) > 122 then (some false) else (impl_textOk.l0 k x0 x6 x7 (wrap64 (x8 + 1))))) else (none)) else (none)) else ((impl_in.f (x0.size : Int) 1 12).bind fun t152 => (some t152))
def impl_textOk.f (k : Nat) (a0 : ByteArray) : Option (Bool) := (some (([] : List Int) : List Int)).bind fun y145 => (if y145.length + a0.size < 140737488355328 then ((some (y145 ++ bytesOf a0 : List Int)).bind fun y148 => (impl_textOk.l0 k a0 y148 (y148.length : Int) 0)) else (none))
theorem impl_textOk.mono_l : ∀ k, (∀ y0 y1 y2 y3, LeO (impl_textOk.l0 k y0 y1 y2 y3) (impl_textOk.l0 (k + 1) y0 y1 y2 y3))
  | 0 => fun _ _ _ _ r h => by simp [impl_textOk.l0] at h
  | k + 1 => by
    have ih0 := impl_textOk.mono_l k
    · intro y0 y1 y2 y3
      unfold impl_textOk.l0
      repeat' first
      | (with_reducible exact ih0 _ _ _ _)
      | (with_reducible exact LeO.refl _)
      | (with_reducible exact LeO.none _)
      | (with_reducible refine LeO.ite ?_ ?_)
      | (with_reducible refine LeO.bind ?_ (fun _ => ?_))
      | exact ih0 _ _ _ _
      | exact LeO.none _
      | refine LeO.ite ?_ ?_
      | refine LeO.bind ?_ (fun _ => ?_)
theorem impl_textOk.mono : ∀ a0 k, LeO (impl_textOk.f k a0) (impl_textOk.f (k + 1) a0) := by
  intro a0 k
  have ih0 := impl_textOk.mono_l k
  unfold impl_textOk.f
  repeat' first
      | (with_reducible exact ih0 _ _ _ _)
      | (with_reducible exact LeO.refl _)
      | (with_reducible exact LeO.none _)
      | (with_reducible refine LeO.ite ?_ ?_)
      | (with_reducible refine LeO.bind ?_ (fun _ => ?_))
      | exact ih0 _ _ _ _
      | exact LeO.none _
      | refine LeO.ite ?_ ?_
      | refine LeO.bind ?_ (fun _ => ?_)
set_option maxHeartbeats 8000000 in
set_option maxRecDepth 100000 in
theorem impl_textOk.calls (k : Nat) (a0 : ByteArray) (r : Bool) (w : World) (h : impl_textOk.f k a0 = some r) :
    Calls Try.prog 56 #[.string a0] w fun e w' => e = .returned (.bool r) ∧ Below w.heap.size w w' := by
  have HB := Aside0.mk (Below.refl w.heap.size w)
  have H : ((some (([] : List Int) : List Int)).bind fun y145 => (if y145.length + a0.size < 140737488355328 then ((some (y145 ++ bytesOf a0 : List Int)).bind fun y148 => (impl_textOk.l0 k a0 y148 (y148.length : Int) 0)) else (none))) = some r := h
  clear h
  obtain ⟨y145, hy145⟩ : ∃ y_ : List Int, y_ = (([] : List Int)) := ⟨_, rfl⟩
  replace H : (if y145.length + a0.size < 140737488355328 then ((some (y145 ++ bytesOf a0 : List Int)).bind fun y148 => (impl_textOk.l0 k a0 y148 (y148.length : Int) 0)) else (none)) = some r := by first | (rw [hy145]; with_reducible exact H) | (have H2_ := (Option.bind_some _ _).symm.trans H; rw [hy145]; with_reducible exact H2_) | (have H2_ := (Option.bind_some _ _).symm.trans H; with_reducible exact H2_) | with_reducible exact H | (rw [hy145]; exact H) | exact H
  have Ny145 := Aside0.mk hy145
  clear hy145
  by_cases c2 : y145.length + a0.size < 140737488355328
  · rw [if_pos c2] at H
    have LMc2 := Aside0.mk c2
    clear c2
    obtain ⟨y148, hy148⟩ : ∃ y_ : List Int, y_ = (y145 ++ bytesOf a0) := ⟨_, rfl⟩
    replace H : (impl_textOk.l0 k a0 y148 (y148.length : Int) 0) = some r := by first | (rw [hy148]; with_reducible exact H) | (have H2_ := (Option.bind_some _ _).symm.trans H; rw [hy148]; with_reducible exact H2_) | (have H2_ := (Option.bind_some _ _).symm.trans H; with_reducible exact H2_) | with_reducible exact H | (rw [hy148]; exact H) | exact H
    have Ny148 := Aside0.mk hy148
    clear hy148
    have H' := Aside0.mk H
    clear H
    have Hs_ := Aside0.mk (show y148 = bytesOf a0 by rw [Ny148.out, Ny145.out]; rfl)
    have Hl_ := Aside0.mk (show y148.length = a0.size by rw [Hs_.out]; exact bytesOf_length a0)
    go_enter Try.func56, Try.ntmps56
    go_wp2_with (first | ((with_reducible refine gate_dst (N := 6) rfl ?_); refine Kd.C_of_str' (w0 := w) w.heap.size rfl 9 29 5 (.tmp 5) rfl Try.underlying9 Try.underlying29 Try.underlying5 a0 y148 Hs_.out rfl ?aB ?aS (by have := LMc2.out; omega) ?_; (case aB => exact (z_2)); (case aS => exact (below_size (z_2))); intro Ao6 co6 w5 HCs_ ho hb; clear HB; have HO150 := Aside0.mk ho; have HB := Aside0.mk hb; clear ho hb HCs_))
    go_loopg [8] k (fun kq v8 w' => ∃ (x8_1 : Int), v8 = .int .i64 x8_1 ∧ Aside0 (impl_textOk.l0 kq a0 y148 (y148.length : Int) x8_1 = some r) ∧ Aside0 (kq ≤ k) ∧ Aside0 (Kd.C (Kd.int .u8) w' Ao6 y148.length y148) ∧ Aside0 (Below w.heap.size w w'))
    case atStart => exact ⟨(0), (z_6), H', ⟨Nat.le_refl _⟩, ⟨by repeat (first | exact HO150.out | (with_reducible refine Kd.C_alloc ?_ _) | (with_reducible refine Kd.C_drewN ?_ _) | (with_reducible refine Kd.C_drew ?_))⟩, ⟨z_2⟩⟩
    case round =>
      clear H'
      try clear c2
      try clear p2
      try clear c5
      obtain ⟨x8_1, rfl, HA, HK1, HO_6, HB⟩ := hrel
      cases gk with
      | zero => exact absurd HA.out (by simp [impl_textOk.l0])
      | succ k1 =>
        have H := HA.out
        clear HA
        simp only [impl_textOk.l0] at H
        by_cases c7 : x8_1 < (y148.length : Int)
        · rw [if_pos c7] at H
          have c7b0 : decide (x8_1 < (y148.length : Int)) = true := decide_eq_true c7
          clear c7
          by_cases c8 : 0 ≤ x8_1
          · rw [if_pos c8] at H
            have c8b0 : decide (0 ≤ x8_1) = true := decide_eq_true c8
            clear c8
            by_cases c9 : x8_1 < (y148.length : Int)
            · rw [if_pos c9] at H
              have c9b0 : decide (x8_1 < (y148.length : Int)) = true := decide_eq_true c9
              clear c9
              by_cases c10 : (rd y148 x8_1) < 97
              · rw [if_pos c10] at H
                have c10b0 : decide ((rd y148 x8_1) < 97) = true := decide_eq_true c10
                clear c10
                obtain rfl := Option.some.inj H
                have p151 : 0 ≤ (x8_1 : Int) := of_decide_eq_true (z_7)
                have q151 : x8_1 < (y148.length : Int) := of_decide_eq_true (z_7)
                obtain ⟨ad151, e151, hx151_0⟩ := Kd.at_int HO_6.out x8_1 p151 q151
                cases e151
                replace p151 := eq_true p151
                replace q151 := eq_true q151
                go_wp2
                go_ret
                exact ⟨z_4, z_2⟩
              · rw [if_neg c10] at H
                have c10b0 : decide ((rd y148 x8_1) < 97) = false := decide_eq_false c10
                clear c10
                by_cases c11 : (rd y148 x8_1) > 122
                · rw [if_pos c11] at H
                  have c11b0 : decide (122 < (rd y148 x8_1)) = true := decide_eq_true c11
                  clear c11
                  obtain rfl := Option.some.inj H
                  have p151 : 0 ≤ (x8_1 : Int) := of_decide_eq_true (z_7)
                  have q151 : x8_1 < (y148.length : Int) := of_decide_eq_true (z_7)
                  obtain ⟨ad151, e151, hx151_0⟩ := Kd.at_int HO_6.out x8_1 p151 q151
                  cases e151
                  replace p151 := eq_true p151
                  replace q151 := eq_true q151
                  go_wp2
                  go_ret
                  exact ⟨z_4, z_2⟩
                · rw [if_neg c11] at H
                  have c11b0 : decide (122 < (rd y148 x8_1)) = false := decide_eq_false c11
                  clear c11
                  have H' := Aside0.mk H
                  clear H
                  have p151 : 0 ≤ (x8_1 : Int) := of_decide_eq_true (z_7)
                  have q151 : x8_1 < (y148.length : Int) := of_decide_eq_true (z_7)
                  obtain ⟨ad151, e151, hx151_0⟩ := Kd.at_int HO_6.out x8_1 p151 q151
                  cases e151
                  replace p151 := eq_true p151
                  replace q151 := eq_true q151
                  go_wp2
                  go_roundg k1
                  case measure => have := HK1.out; omega
                  case rel => exact ⟨(wrap64 (x8_1 + 1)), (z_6), H', ⟨z_9⟩, ⟨by repeat (first | exact HO_6.out | (with_reducible refine Kd.C_alloc ?_ _) | (with_reducible refine Kd.C_drewN ?_ _) | (with_reducible refine Kd.C_drew ?_))⟩, ⟨z_2⟩⟩
            · rw [if_neg c9] at H
              exact absurd H (by simp)
          · rw [if_neg c8] at H
            exact absurd H (by simp)
        · rw [if_neg c7] at H
          have c7b0 : decide (x8_1 < (y148.length : Int)) = false := decide_eq_false c7
          clear c7
          replace H := Option.bind_eq_some_iff.mp H
          obtain ⟨t152, A120, H⟩ := H
          have A12 := Aside0.mk A120
          clear A120
          obtain rfl := Option.some.inj H
          go_wp2_with (first | ((with_reducible refine gate_callee (f := 57) rfl ?_); refine goesL_ (some 21) rfl rfl Try.func57 (z_0) rfl #[.int .i64 (a0.size : Int), .int .i64 1, .int .i64 12] rfl (z_8) ?_; (with_reducible refine (impl_in.calls (a0.size : Int) 1 12 t152 _ A12.out).mono ?_); rintro e w' ⟨rfl, ⟨nd, rfl⟩⟩; refine ⟨_, rfl, ?_⟩))
          go_ret
          exact ⟨z_4, z_2⟩
  · rw [if_neg c2] at H
    exact absurd H (by simp)

/-! ### impl_word: function 58 -/
def impl_word.f (a0 : Int) : Option (Bool) := (impl_in.f a0 0 65535).bind fun t153 => (some t153)
set_option maxHeartbeats 8000000 in
set_option maxRecDepth 100000 in
theorem impl_word.calls (a0 : Int) (r : Bool) (w : World) (h : impl_word.f a0 = some r) :
    Calls Try.prog 58 #[.int .i64 a0] w fun e w' => e = .returned (.bool r) ∧ Drawn0 w w' := by
  have H : ((impl_in.f a0 0 65535).bind fun t153 => (some t153)) = some r := h
  clear h
  replace H := Option.bind_eq_some_iff.mp H
  obtain ⟨t153, A20, H⟩ := H
  have A2 := Aside0.mk A20
  clear A20
  obtain rfl := Option.some.inj H
  go_enter Try.func58, Try.ntmps58
  go_wp2_with (first | ((with_reducible refine gate_callee (f := 57) rfl ?_); refine goesL_ (some 4) rfl rfl Try.func57 (z_0) rfl #[.int .i64 a0, .int .i64 0, .int .i64 65535] rfl (z_8) ?_; (with_reducible refine (impl_in.calls a0 0 65535 t153 _ A2.out).mono ?_); rintro e w' ⟨rfl, ⟨nd, rfl⟩⟩; refine ⟨_, rfl, ?_⟩))
  go_ret
  exact ⟨z_6, z_28⟩

end Go.Proofs.Ytmgnmgobibpjjaa.GFnExactNameFind
