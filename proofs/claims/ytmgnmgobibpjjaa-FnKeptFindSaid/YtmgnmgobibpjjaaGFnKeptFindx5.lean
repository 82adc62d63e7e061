/- What the Go functions that FnKeptFind reaches come to, walked step by step; there is no condition beyond those each statement names. -/
import Derived.Test.YtmgnmgobibpjjaaGFnKeptFindx0
import Derived.Test.YtmgnmgobibpjjaaGFnKeptFindx2
import Derived.Test.YtmgnmgobibpjjaaGFnKeptFindx4
namespace Go.Proofs.Ytmgnmgobibpjjaa.GFnKeptFind
open Go.RowKit Go.Proofs.YtmgnmgobibpjjaaVKeptFind.PrintWords Go.Proofs.YtmgnmgobibpjjaaVKeptFind.PrintLast Go.Proofs.YtmgnmgobibpjjaaVKeptFind.PrintMore
open Bool renaming true → T, false → F
attribute [local go_sem] max2_int min2_int max_two min_two max_three min_three max_four min_four   -- for this text's walks alone
set_option linter.unusedVariables false
set_option linter.unusedSimpArgs false

/-! ### impl_KeptOk: function 36 -/
def impl_KeptOk.l0 : Nat → List (S83) → List (S83) → Int → Int → Option (Bool)
 | 0, _, _, _, _ => none
 | k + 1, x0, x5, x6, x7 => if x7 < x6 then (if 0 ≤ x7 then (if x7 < (x5.length : Int) then ((impl_NameOk.f k ((rd_T83 x5 x7).f0.f0) ((rd_T83 x5 x7).f0.f1) ((rd_T83 x5 x7).f0.f2) ((rd_T83 x5 x7).f0.f3) ((rd_T83 x5 x7).f0.f4)).bind fun t138 => (if t138 = true then ((impl_in.f ((rd_T83 x5 x7).f1) 0 1000000).bind fun t139 => (if t139 = true then (if x7 ≤ (x0.length : Int) then ((impl_keptAt.f k (x0.take (x7 : Int).toNat) ((rd_T83 x5 x7).f0.f0)).bind fun t144 => (if t144 ≥ 0 then (some false) else (impl_KeptOk.l0 k x0 x5 x6 (wrap64 (x7 + 1))))) else (none)) else (some false))) else (some false))) else (none)) else (none)) else (some (decide ((x0.length : Int) ≤ 5)))
def impl_KeptOk.f (k : Nat) (l0 : List (S83)) : Option (Bool) := impl_KeptOk.l0 k l0 l0 (l0.length : Int) 0
theorem impl_KeptOk.mono_l : ∀ k, (∀ y0 y1 y2 y3, LeO (impl_KeptOk.l0 k y0 y1 y2 y3) (impl_KeptOk.l0 (k + 1) y0 y1 y2 y3))
 | 0 => fun _ _ _ _ r h => by simp [impl_KeptOk.l0] at h
 | k + 1 => by
  have ih0 := impl_KeptOk.mono_l k
  ·intro y0 y1 y2 y3
   unfold impl_KeptOk.l0
   repeat' first
   | (with_reducible exact ih0 _ _ _ _)
   | (with_reducible exact impl_NameOk.mono _ _ _ _ _ _)
   | (with_reducible exact impl_keptAt.mono _ _ _)
   | (with_reducible exact LeO.refl _)
   | (with_reducible exact LeO.none _)
   | (with_reducible refine LeO.ite ?_ ?_)
   | (with_reducible refine LeO.bind ?_ (fun _ => ?_))
   | exact ih0 _ _ _ _
   | exact impl_NameOk.mono _ _ _ _ _ _
   | exact impl_keptAt.mono _ _ _
   | exact LeO.none _
   | refine LeO.ite ?_ ?_
   | refine LeO.bind ?_ (fun _ => ?_)
theorem impl_KeptOk.mono : ∀ a0 k, LeO (impl_KeptOk.f k a0) (impl_KeptOk.f (k + 1) a0) := by
 intro a0 k
 have ih0 := impl_KeptOk.mono_l k
 unfold impl_KeptOk.f
 repeat' first
   | (with_reducible exact ih0 _ _ _ _)
   | (with_reducible exact impl_NameOk.mono _ _ _ _ _ _)
   | (with_reducible exact impl_keptAt.mono _ _ _)
   | (with_reducible exact LeO.refl _)
   | (with_reducible exact LeO.none _)
   | (with_reducible refine LeO.ite ?_ ?_)
   | (with_reducible refine LeO.bind ?_ (fun _ => ?_))
   | exact ih0 _ _ _ _
   | exact impl_NameOk.mono _ _ _ _ _ _
   | exact impl_keptAt.mono _ _ _
   | exact LeO.none _
   | refine LeO.ite ?_ ?_
   | refine LeO.bind ?_ (fun _ => ?_)
def impl_KeptOk.T4 : Bool × List (List Nat × List Nat) := (true, [([], []), ([0], [0]), ([1], [1]), ([2], [2]), ([3, 2], [3]), ([4], [4]), ([5, 4], [4, 5]), ([6, 4, 4], [4, 6]), ([7, 4], [4, 7]), ([4, 8], [4, 8]), ([9, 7], [9]), ([10], [10]), ([10], [10]), ([11, 12, 10], [10, 11, 12]), ([10], [10]), ([14, 10], [10, 14]), ([15, 10], [10, 15]), ([13, 16, 10, 10], [10, 13, 16]), ([17, 10], [10, 17]), ([10, 18], [10, 18])])
def impl_KeptOk.B4 : List Nat := [0, 1, 3, 7, 15, 31, 63, 127, 255, 511, 1023, 2047, 2047, 8191, 2047, 18431, 51199, 131071, 262143, 524287]
theorem impl_KeptOk.tab4 : rtab .any (opsOf Try.f36 4) = impl_KeptOk.T4 := z_0
theorem impl_KeptOk.bits4 : waitsOk impl_KeptOk.T4.2 impl_KeptOk.B4 = true := z_0
set_option maxHeartbeats 8000000 in
set_option maxRecDepth 100000 in
theorem impl_KeptOk.calls (k : Nat) (A0 : Option Addr) (c0 : Nat) (l0 : List (S83)) (r : Bool) (w : World) (hr0 : Kd.C k83 w A0 l0.length l0) (hc0 : l0.length ≤ c0) (h : impl_KeptOk.f k l0 = some r) :
  Calls Try.prog 36 #[.slice A0 l0.length c0] w fun e w' => e = .returned (.bool r) ∧ Below w.heap.size w w' := by
 have hu83 := Try.underlying83
 have hu26 := Try.underlying26
 have HR0 := Aside0.mk hr0
 have HC0 := Aside0.mk hc0
 clear hr0 hc0
 have HB := Aside0.mk (Below.refl w.heap.size w)
 have H : (impl_KeptOk.l0 k l0 l0 (l0.length : Int) 0) = some r := h
 clear h
 have H' := Aside0.mk H
 clear H
 go_enter Try.func36, Try.ntmps36
 go_wp2
 go_loopg [7] k (fun kq v7 w' => ∃ (x7_1 : Int), v7 = .int .i64 x7_1 ∧ Aside0 (impl_KeptOk.l0 kq l0 l0 (l0.length : Int) x7_1 = some r) ∧ Aside0 (kq ≤ k) ∧ Aside0 (Below w.heap.size w w'))
 case atStart => exact ⟨(0), (z_3), H', ⟨Nat.le_refl _⟩, ⟨z_8⟩⟩
 case round =>
  clear H'
  obtain ⟨x7_1, rfl, HA, HK1, HB⟩ := hrel
  cases gk with
  | zero => exact absurd HA.out (by simp [impl_KeptOk.l0])
  | succ k1 =>
   have H := HA.out
   clear HA
   simp only [impl_KeptOk.l0] at H
   by_cases c2 : x7_1 < (l0.length : Int)
   ·rw [if_pos c2] at H
    have c2b0 : decide (x7_1 < (l0.length : Int)) = true := decide_eq_true c2
    clear c2
    by_cases c3 : 0 ≤ x7_1
    ·rw [if_pos c3] at H
     have c3b0 : decide (0 ≤ x7_1) = true := decide_eq_true c3
     clear c3
     by_cases c4 : x7_1 < (l0.length : Int)
     ·rw [if_pos c4] at H
      have c4b0 : decide (x7_1 < (l0.length : Int)) = true := decide_eq_true c4
      clear c4
      replace H := Option.bind_eq_some_iff.mp H
      obtain ⟨t138, A50, H⟩ := H
      have A5 := Aside0.mk A50
      clear A50
      by_cases c6 : t138 = true
      ·subst c6
       rw [if_pos rfl] at H
       replace H := Option.bind_eq_some_iff.mp H
       obtain ⟨t139, A70, H⟩ := H
       have A7 := Aside0.mk A70
       clear A70
       by_cases c8 : t139 = true
       ·subst c8
        rw [if_pos rfl] at H
        have c9b0 := eq_true (of_decide_eq_true (z_7) : 0 ≤ x7_1)
        by_cases c10 : x7_1 ≤ (l0.length : Int)
        ·rw [if_pos c10] at H
         have c10b0 := eq_true c10
         have c10b1 : decide (x7_1 ≤ (l0.length : Int)) = true := decide_eq_true c10
         clear c10
         obtain ⟨y140, hy140⟩ : ∃ y_ : List (S83), y_ = (l0.take (x7_1 : Int).toNat) := ⟨_, rfl⟩
         replace H : ((impl_keptAt.f k1 y140 ((rd_T83 l0 x7_1).f0.f0)).bind fun t144 => (if t144 ≥ 0 then (some false) else (impl_KeptOk.l0 k1 l0 l0 (l0.length : Int) (wrap64 (x7_1 + 1))))) = some r := by first | (rw [hy140]; with_reducible exact H) | (have H2_ := (Option.bind_some _ _).symm.trans H; rw [hy140]; with_reducible exact H2_) | (have H2_ := (Option.bind_some _ _).symm.trans H; with_reducible exact H2_) | with_reducible exact H | (rw [hy140]; exact H) | exact H
         have Ny140 := Aside0.mk hy140
         clear hy140
         replace H := Option.bind_eq_some_iff.mp H
         obtain ⟨t144, A110, H⟩ := H
         have A11 := Aside0.mk A110
         clear A110
         by_cases c12 : t144 ≥ 0
         ·rw [if_pos c12] at H
          have c12b0 : decide (0 ≤ t144) = true := decide_eq_true c12
          clear c12
          obtain rfl := Option.some.inj H
          have p136 : 0 ≤ (x7_1 : Int) := of_decide_eq_true (z_7)
          have q136 : x7_1 < (l0.length : Int) := of_decide_eq_true (z_7)
          obtain ⟨ad136, e136, hx136_0, hx136_1, hx136_2, hx136_3, hx136_4, hx136_5⟩ := at_T83 HR0.out x7_1 p136 q136
          cases e136
          replace hx136_0 := pw_cell_below HB.out hx136_0
          replace hx136_1 := pw_cell_below HB.out hx136_1
          replace hx136_2 := pw_cell_below HB.out hx136_2
          replace hx136_3 := pw_cell_below HB.out hx136_3
          replace hx136_4 := pw_cell_below HB.out hx136_4
          replace hx136_5 := pw_cell_below HB.out hx136_5
          replace p136 := eq_true p136
          replace q136 := eq_true q136
          try go_wp2_with (first | ((with_reducible refine gate_dst (N := 4) rfl ?_); refine box_event ?hg (N := 4) ?hd (cs := #[.string (⟨#[]⟩ : ByteArray), .int .i64 0, .int .i64 0, .string (⟨#[]⟩ : ByteArray), .int .i64 0, .int .i64 0]) (t := 83) ?hr ?_; (case hd => rfl); (case hg => rfl); (case hr => exact z_9); intro gb137 hg w13 hbox hb; have n0_ := Aside0.mk (below_step (z_8) hb); have n1_ := Aside0.mk (hbox); have n2_ := Aside0.mk ((z_20 : w.heap.size ≤ gb137)); have n3_ := Aside0.mk ((z_20 : w.heap.size ≤ gb137)); clear HB; have HB := n0_; have BK137 := n1_; have GW137 := n2_; have GE137 := n3_; clear n0_ n1_ n2_ n3_; clear hb hbox hg; have hcz14_0 : w13.cell? ⟨gb137, 0, none⟩ = some (.string (⟨#[]⟩ : ByteArray)) := (blk_cell BK137.out 0).trans rfl; have hcz14_1 : w13.cell? ⟨gb137, 1, none⟩ = some (.int .i64 0) := (blk_cell BK137.out 1).trans rfl; have hcz14_2 : w13.cell? ⟨gb137, 2, none⟩ = some (.int .i64 0) := (blk_cell BK137.out 2).trans rfl; have hcz14_3 : w13.cell? ⟨gb137, 3, none⟩ = some (.string (⟨#[]⟩ : ByteArray)) := (blk_cell BK137.out 3).trans rfl; have hcz14_4 : w13.cell? ⟨gb137, 4, none⟩ = some (.int .i64 0) := (blk_cell BK137.out 4).trans rfl; have hcz14_5 : w13.cell? ⟨gb137, 5, none⟩ = some (.int .i64 0) := (blk_cell BK137.out 5).trans rfl; have hfz14_0 := blk_frozen BK137.out 0; have hfz14_1 := blk_frozen BK137.out 1; have hfz14_2 := blk_frozen BK137.out 2; have hfz14_3 := blk_frozen BK137.out 3; have hfz14_4 := blk_frozen BK137.out 4; have hfz14_5 := blk_frozen BK137.out 5))
          have n0_ : Aside0 (((((((w13.setCell ⟨gb137, 0, none⟩ (.string ((rd_T83 l0 x7_1).f0.f0))).setCell ⟨gb137, 1, none⟩ (.int .i64 ((rd_T83 l0 x7_1).f0.f1))).setCell ⟨gb137, 2, none⟩ (.int .i64 ((rd_T83 l0 x7_1).f0.f2))).setCell ⟨gb137, 3, none⟩ (.string ((rd_T83 l0 x7_1).f0.f3))).setCell ⟨gb137, 4, none⟩ (.int .i64 ((rd_T83 l0 x7_1).f0.f4))).setCell ⟨gb137, 5, none⟩ (.int .i64 ((rd_T83 l0 x7_1).f1))).heap[gb137]? = some (.cells #[.string ((rd_T83 l0 x7_1).f0.f0), .int .i64 ((rd_T83 l0 x7_1).f0.f1), .int .i64 ((rd_T83 l0 x7_1).f0.f2), .string ((rd_T83 l0 x7_1).f0.f3), .int .i64 ((rd_T83 l0 x7_1).f0.f4), .int .i64 ((rd_T83 l0 x7_1).f1)] 83 (0, 0))) := ⟨z_27⟩
          have n1_ : Aside0 (Below w.heap.size w ((((((w13.setCell ⟨gb137, 0, none⟩ (.string ((rd_T83 l0 x7_1).f0.f0))).setCell ⟨gb137, 1, none⟩ (.int .i64 ((rd_T83 l0 x7_1).f0.f1))).setCell ⟨gb137, 2, none⟩ (.int .i64 ((rd_T83 l0 x7_1).f0.f2))).setCell ⟨gb137, 3, none⟩ (.string ((rd_T83 l0 x7_1).f0.f3))).setCell ⟨gb137, 4, none⟩ (.int .i64 ((rd_T83 l0 x7_1).f0.f4))).setCell ⟨gb137, 5, none⟩ (.int .i64 ((rd_T83 l0 x7_1).f1)))) := ⟨z_28⟩
          (try clear BK137)
          (try clear HB)
          generalize ((((((w13.setCell ⟨gb137, 0, none⟩ (.string ((rd_T83 l0 x7_1).f0.f0))).setCell ⟨gb137, 1, none⟩ (.int .i64 ((rd_T83 l0 x7_1).f0.f1))).setCell ⟨gb137, 2, none⟩ (.int .i64 ((rd_T83 l0 x7_1).f0.f2))).setCell ⟨gb137, 3, none⟩ (.string ((rd_T83 l0 x7_1).f0.f3))).setCell ⟨gb137, 4, none⟩ (.int .i64 ((rd_T83 l0 x7_1).f0.f4))).setCell ⟨gb137, 5, none⟩ (.int .i64 ((rd_T83 l0 x7_1).f1))) = w15 at n0_ n1_ ⊢
          have BK137 := n0_
          have HB := n1_
          clear n0_ n1_
          have n0_ := Aside0.mk (blk_drew BK137.out)
          have n1_ := Aside0.mk (below_drew1 HB.out)
          clear BK137
          clear HB
          have BK137 := n0_
          have HB := n1_
          clear n0_ n1_
          refine start_ (n := 20) (S := fun w' => w'.cell? ⟨gb137, 0, none⟩ = some (.string ((rd_T83 l0 x7_1).f0.f0)) ∧ w'.cell? ⟨gb137, 1, none⟩ = some (.int .i64 ((rd_T83 l0 x7_1).f0.f1)) ∧ w'.cell? ⟨gb137, 2, none⟩ = some (.int .i64 ((rd_T83 l0 x7_1).f0.f2)) ∧ w'.cell? ⟨gb137, 3, none⟩ = some (.string ((rd_T83 l0 x7_1).f0.f3)) ∧ w'.cell? ⟨gb137, 4, none⟩ = some (.int .i64 ((rd_T83 l0 x7_1).f0.f4)) ∧ w'.cell? ⟨gb137, 5, none⟩ = some (.int .i64 ((rd_T83 l0 x7_1).f1))) (ds := []) #[F,F,F,F,F,F,F,F,F,F,F,F,F,F,F,F,F,F,F,F] (z_0) rfl rfl ⟨(blk_cell BK137.out 0).trans rfl, (blk_cell BK137.out 1).trans rfl, (blk_cell BK137.out 2).trans rfl, (blk_cell BK137.out 3).trans rfl, (blk_cell BK137.out 4).trans rfl, (blk_cell BK137.out 5).trans rfl⟩ (fun hHeld => ?_); refine with_tabW impl_KeptOk.tab4 impl_KeptOk.bits4 (fun HT_ HW_ => ?_)
          generalize w15.drew = w16 at BK137 HB hHeld ⊢
          refine pure_ (i := 0) (N := some 12) (v := ?_) (a' := ?_) #[T,F,F,F,F,F,F,F,F,F,F,F,F,F,F,F,F,F,F,F] rfl rfl (any_of HT_.out (z_0)) (fun _ _ _ h => h) (Or.inl ⟨z_1, ?_⟩) ?_ ?_
          rotate_left
          ·intro w'
           go_simp
           with_reducible rfl
          rotate_left
          ·simp only [Act.put, List.setIfInBounds_toArray, List.set_cons_zero, List.set_cons_succ, i64_w, i32_w]
           rfl
          refine take_ (i := 1) (N := some 13) (v := ?_) (a' := ?_) #[T,T,F,F,F,F,F,F,F,F,F,F,F,F,F,F,F,F,F,F] rfl rfl (take_ofW HT_.out HW_.out (z_0)) (fun _ _ _ h => h) (Or.inl ⟨z_1, ?_⟩) hHeld ?_ ?_
          rotate_left
          ·rintro w' ⟨s0, s1, s2, s3, s4, s5⟩
           go_simp
           with_reducible rfl
          rotate_left
          ·simp only [Act.put, List.setIfInBounds_toArray, List.set_cons_zero, List.set_cons_succ, i64_w, i32_w]
           rfl
          refine one_ (i := 2) (N := some 14) #[T,T,T,F,F,F,F,F,F,F,F,F,F,F,F,F,F,F,F,F] rfl rfl (one_of HT_.out (z_0)) (z_5) (fun K hK => ?_)
          refine goes_ Try.func21 (z_0) rfl #[.agg #[.string ((rd_T83 l0 x7_1).f0.f0), .int .i64 ((rd_T83 l0 x7_1).f0.f1), .int .i64 ((rd_T83 l0 x7_1).f0.f2), .string ((rd_T83 l0 x7_1).f0.f3), .int .i64 ((rd_T83 l0 x7_1).f0.f4)]] (z_1) rfl rfl (z_14) ?_
          with_reducible refine (impl_NameOk.calls k1 ((rd_T83 l0 x7_1).f0.f0) ((rd_T83 l0 x7_1).f0.f1) ((rd_T83 l0 x7_1).f0.f2) ((rd_T83 l0 x7_1).f0.f3) ((rd_T83 l0 x7_1).f0.f4) true _ A5.out).mono ?_
          rintro e w17 ⟨rfl, hb⟩
          refine ⟨_, rfl, ?_⟩
          have n0_ := Aside0.mk (blk_below (g := gb137) (o := .cells #[.string ((rd_T83 l0 x7_1).f0.f0), .int .i64 ((rd_T83 l0 x7_1).f0.f1), .int .i64 ((rd_T83 l0 x7_1).f0.f2), .string ((rd_T83 l0 x7_1).f0.f3), .int .i64 ((rd_T83 l0 x7_1).f0.f4), .int .i64 ((rd_T83 l0 x7_1).f1)] 83 (0, 0)) (z_29) hb)
          have n1_ := Aside0.mk (below_step (z_28) hb)
          clear BK137
          clear HB
          have BK137 := n0_
          have HB := n1_
          clear n0_ n1_
          (try clear hb)
          (try clear hb2)
          (try clear hk)
          (try clear hi)
          refine hK.out _ _ ⟨(blk_cell BK137.out 0).trans rfl, (blk_cell BK137.out 1).trans rfl, (blk_cell BK137.out 2).trans rfl, (blk_cell BK137.out 3).trans rfl, (blk_cell BK137.out 4).trans rfl, (blk_cell BK137.out 5).trans rfl⟩ (fun hHeld => ?_)
          clear hK K
          refine norm_ (a' := ?_) ?_ ?_
          rotate_left
          ·show Act.put _ (some 14) _ = _
           simp only [Act.put, List.setIfInBounds_toArray, List.set_cons_zero, List.set_cons_succ, i64_w, i32_w]
           rfl
          refine pure_ (i := 3) (N := some 15) (v := ?_) (a' := ?_) #[T,T,T,T,F,F,F,F,F,F,F,F,F,F,F,F,F,F,F,F] rfl rfl (any_of HT_.out (z_0)) (fun _ _ _ h => h) (Or.inl ⟨z_1, ?_⟩) ?_ ?_
          rotate_left
          ·intro w'
           go_simp
           with_reducible rfl
          rotate_left
          ·simp only [Act.put, List.setIfInBounds_toArray, List.set_cons_zero, List.set_cons_succ, i64_w, i32_w]
           rfl
          refine pure_ (i := 4) (N := some 16) (v := ?_) (a' := ?_) #[T,T,T,T,T,F,F,F,F,F,F,F,F,F,F,F,F,F,F,F] rfl rfl (any_of HT_.out (z_0)) (fun _ _ _ h => h) (Or.inl ⟨z_1, ?_⟩) ?_ ?_
          rotate_left
          ·intro w'
           go_simp
           with_reducible rfl
          rotate_left
          ·simp only [Act.put, List.setIfInBounds_toArray, List.set_cons_zero, List.set_cons_succ, i64_w, i32_w]
           rfl
          refine pure_ (i := 5) (N := some 17) (v := ?_) (a' := ?_) #[T,T,T,T,T,T,F,F,F,F,F,F,F,F,F,F,F,F,F,F] rfl rfl (any_of HT_.out (z_0)) (fun _ _ _ h => h) (Or.inl ⟨z_1, ?_⟩) ?_ ?_
          rotate_left
          ·intro w'
           go_simp
           with_reducible rfl
          rotate_left
          ·simp only [Act.put, List.setIfInBounds_toArray, List.set_cons_zero, List.set_cons_succ, i64_w, i32_w]
           rfl
          refine take_ (i := 6) (N := some 18) (v := ?_) (a' := ?_) #[T,T,T,T,T,T,T,F,F,F,F,F,F,F,F,F,F,F,F,F] rfl rfl (take_ofW HT_.out HW_.out (z_0)) (fun _ _ _ h => h) (Or.inl ⟨z_1, ?_⟩) hHeld ?_ ?_
          rotate_left
          ·rintro w' ⟨s0, s1, s2, s3, s4, s5⟩
           go_simp
           with_reducible rfl
          rotate_left
          ·simp only [Act.put, List.setIfInBounds_toArray, List.set_cons_zero, List.set_cons_succ, i64_w, i32_w]
           rfl
          refine one_ (i := 7) (N := some 19) #[T,T,T,T,T,T,T,T,F,F,F,F,F,F,F,F,F,F,F,F] rfl rfl (one_of HT_.out (z_0)) (z_5) (fun K hK => ?_)
          refine goes_ Try.func57 (z_0) rfl #[.int .i64 ((rd_T83 l0 x7_1).f1), .int .i64 0, .int .i64 1000000] (z_1) rfl rfl (z_14) ?_
          with_reducible refine (impl_in.calls ((rd_T83 l0 x7_1).f1) 0 1000000 true _ A7.out).mono ?_
          rintro e w' ⟨rfl, ⟨nd, rfl⟩⟩
          refine ⟨_, rfl, ?_⟩
          have q18 : (x7_1 : Int) ≤ ((l0.length : Int) : Int) := of_decide_eq_true (z_7)
          obtain ⟨i018, hi018, _, hsz18, _⟩ := info_parts info83
          have hroom18 : l0.length ≤ c0 := HC0.out
          have hC18 : Kd.C k83 _ (some ad136) l0.length l0 := HR0.out
          have hcut18 := cut_to (P := Try.prog) 48 83 .i64 Try.underlying48 hi018 (some ad136) l0.length c0 x7_1 (of_decide_eq_true (z_7)) q18 hroom18
          have hr18 := Kd.C_take (m := (x7_1 : Int).toNat) hC18 (z_6)
          have hy18 : y140.length = (x7_1 : Int).toNat := (by rw [Ny140.out, List.length_take]; omega)
          rw [← Ny140.out] at hr18
          rw [← hy18] at hcut18
          have HR143 := Aside0.mk hr18
          have HC143 := Aside0.mk (show y140.length ≤ c0 from z_6)
          clear hr18 hC18 hroom18 hi018 hsz18
          have KY18 := Aside0.mk hy18
          clear hy18
          replace q18 := eq_true q18
          refine hK.out _ _ ⟨(blk_cell BK137.out 0).trans rfl, (blk_cell BK137.out 1).trans rfl, (blk_cell BK137.out 2).trans rfl, (blk_cell BK137.out 3).trans rfl, (blk_cell BK137.out 4).trans rfl, (blk_cell BK137.out 5).trans rfl⟩ (fun hHeld => ?_)
          clear hK K
          refine norm_ (a' := ?_) ?_ ?_
          rotate_left
          ·show Act.put _ (some 19) _ = _
           simp only [Act.put, List.setIfInBounds_toArray, List.set_cons_zero, List.set_cons_succ, i64_w, i32_w]
           rfl
          refine pure_ (i := 8) (N := some 20) (v := ?_) (a' := ?_) #[T,T,T,T,T,T,T,T,T,F,F,F,F,F,F,F,F,F,F,F] rfl rfl (any_of HT_.out (z_0)) (fun _ _ _ h => h) (Or.inl ⟨z_1, ?_⟩) ?_ ?_
          rotate_left
          ·intro w'
           go_simp
           with_reducible rfl
          rotate_left
          ·simp only [Act.put, List.setIfInBounds_toArray, List.set_cons_zero, List.set_cons_succ, i64_w, i32_w]
           rfl
          refine pure_ (i := 9) (N := some 21) (v := ?_) (a' := ?_) #[T,T,T,T,T,T,T,T,T,T,F,F,F,F,F,F,F,F,F,F] rfl rfl (any_of HT_.out (z_0)) (fun _ _ _ h => h) (Or.inl ⟨z_1, ?_⟩) ?_ ?_
          rotate_left
          ·intro w'
           go_simp
           with_reducible rfl
          rotate_left
          ·simp only [Act.put, List.setIfInBounds_toArray, List.set_cons_zero, List.set_cons_succ, i64_w, i32_w]
           rfl
          refine pure_ (i := 10) (N := some 22) (v := ?_) (a' := ?_) #[T,T,T,T,T,T,T,T,T,T,T,F,F,F,F,F,F,F,F,F] rfl rfl (any_of HT_.out (z_0)) (fun _ _ _ h => h) (Or.inl ⟨z_1, ?_⟩) ?_ ?_
          rotate_left
          ·intro w'
           go_simp
           with_reducible rfl
          rotate_left
          ·simp only [Act.put, List.setIfInBounds_toArray, List.set_cons_zero, List.set_cons_succ, i64_w, i32_w]
           rfl
          refine pure_ (i := 11) (N := some 23) (v := ?_) (a' := ?_) #[T,T,T,T,T,T,T,T,T,T,T,T,F,F,F,F,F,F,F,F] rfl rfl (any_of HT_.out (z_0)) (fun _ _ _ h => h) (Or.inl ⟨z_1, ?_⟩) ?_ ?_
          rotate_left
          ·intro w'
           go_simp
           with_reducible rfl
          rotate_left
          ·simp only [Act.put, List.setIfInBounds_toArray, List.set_cons_zero, List.set_cons_succ, i64_w, i32_w]
           rfl
          refine pure_ (i := 12) (N := some 24) (v := ?_) (a' := ?_) #[T,T,T,T,T,T,T,T,T,T,T,T,T,F,F,F,F,F,F,F] rfl rfl (any_of HT_.out (z_0)) (fun _ _ _ h => h) (Or.inl ⟨z_1, ?_⟩) ?_ ?_
          rotate_left
          ·intro w'
           go_simp
           with_reducible rfl
          rotate_left
          ·simp only [Act.put, List.setIfInBounds_toArray, List.set_cons_zero, List.set_cons_succ, i64_w, i32_w]
           rfl
          refine pure_ (i := 13) (N := some 25) (v := ?_) (a' := ?_) #[T,T,T,T,T,T,T,T,T,T,T,T,T,T,F,F,F,F,F,F] rfl rfl (any_of HT_.out (z_0)) (fun _ _ _ h => h) (Or.inl ⟨z_1, ?_⟩) ?_ ?_
          rotate_left
          ·intro w'
           go_simp
           with_reducible rfl
          rotate_left
          ·simp only [Act.put, List.setIfInBounds_toArray, List.set_cons_zero, List.set_cons_succ, i64_w, i32_w]
           rfl
          refine pure_ (i := 14) (N := some 26) (v := ?_) (a' := ?_) #[T,T,T,T,T,T,T,T,T,T,T,T,T,T,T,F,F,F,F,F] rfl rfl (any_of HT_.out (z_0)) (fun _ _ _ h => h) (Or.inl ⟨z_1, ?_⟩) ?_ ?_
          rotate_left
          ·intro w'
           go_simp
           with_reducible rfl
          rotate_left
          ·simp only [Act.put, List.setIfInBounds_toArray, List.set_cons_zero, List.set_cons_succ, i64_w, i32_w]
           rfl
          refine pure_ (i := 15) (N := some 27) (v := ?_) (a' := ?_) #[T,T,T,T,T,T,T,T,T,T,T,T,T,T,T,T,F,F,F,F] rfl rfl (any_of HT_.out (z_0)) (fun _ _ _ h => h) (Or.inl ⟨z_1, ?_⟩) ?_ ?_
          rotate_left
          ·intro w'
           go_simp
           with_reducible rfl
          rotate_left
          ·simp only [Act.put, List.setIfInBounds_toArray, List.set_cons_zero, List.set_cons_succ, i64_w, i32_w]
           rfl
          refine take_ (i := 16) (N := some 28) (v := ?_) (a' := ?_) #[T,T,T,T,T,T,T,T,T,T,T,T,T,T,T,T,T,F,F,F] rfl rfl (take_ofW HT_.out HW_.out (z_0)) (fun _ _ _ h => h) (Or.inl ⟨z_1, ?_⟩) hHeld ?_ ?_
          rotate_left
          ·rintro w' ⟨s0, s1, s2, s3, s4, s5⟩
           go_simp
           with_reducible rfl
          rotate_left
          ·simp only [Act.put, List.setIfInBounds_toArray, List.set_cons_zero, List.set_cons_succ, i64_w, i32_w]
           rfl
          refine one_ (i := 17) (N := some 29) #[T,T,T,T,T,T,T,T,T,T,T,T,T,T,T,T,T,T,F,F] rfl rfl (one_of HT_.out (z_0)) (z_5) (fun K hK => ?_)
          refine goes_ Try.func66 (z_0) rfl #[.slice (some ad136) y140.length c0, .string ((rd_T83 l0 x7_1).f0.f0)] (z_1) rfl rfl (z_14) ?_
          with_reducible refine (impl_keptAt.calls k1 _ _ y140 ((rd_T83 l0 x7_1).f0.f0) t144 _ ?side1 ?side2 A11.out).mono ?_
          (case side1 => exact z_30)
          (case side2 => exact HC143.out)
          rintro e w19 ⟨rfl, hb⟩
          refine ⟨_, rfl, ?_⟩
          have n0_ := Aside0.mk (blk_below (g := gb137) (o := .cells #[.string ((rd_T83 l0 x7_1).f0.f0), .int .i64 ((rd_T83 l0 x7_1).f0.f1), .int .i64 ((rd_T83 l0 x7_1).f0.f2), .string ((rd_T83 l0 x7_1).f0.f3), .int .i64 ((rd_T83 l0 x7_1).f0.f4), .int .i64 ((rd_T83 l0 x7_1).f1)] 83 (0, 0)) (z_29) hb)
          have n1_ := Aside0.mk (below_step (z_28) hb)
          clear BK137
          clear HB
          have BK137 := n0_
          have HB := n1_
          clear n0_ n1_
          (try clear hb)
          (try clear hb2)
          (try clear hk)
          (try clear hi)
          refine hK.out _ _ ⟨(blk_cell BK137.out 0).trans rfl, (blk_cell BK137.out 1).trans rfl, (blk_cell BK137.out 2).trans rfl, (blk_cell BK137.out 3).trans rfl, (blk_cell BK137.out 4).trans rfl, (blk_cell BK137.out 5).trans rfl⟩ (fun hHeld => ?_)
          clear hK K
          refine norm_ (a' := ?_) ?_ ?_
          rotate_left
          ·show Act.put _ (some 29) _ = _
           simp only [Act.put, List.setIfInBounds_toArray, List.set_cons_zero, List.set_cons_succ, i64_w, i32_w]
           rfl
          refine pure_ (i := 18) (N := some 30) (v := ?_) (a' := ?_) #[T,T,T,T,T,T,T,T,T,T,T,T,T,T,T,T,T,T,T,F] rfl rfl (any_of HT_.out (z_0)) (fun _ _ _ h => h) (Or.inl ⟨z_1, ?_⟩) ?_ ?_
          rotate_left
          ·intro w'
           go_simp
           with_reducible rfl
          rotate_left
          ·simp only [Act.put, List.setIfInBounds_toArray, List.set_cons_zero, List.set_cons_succ, i64_w, i32_w]
           rfl
          refine pure_ (i := 19) (N := some 31) (v := ?_) (a' := ?_) #[T,T,T,T,T,T,T,T,T,T,T,T,T,T,T,T,T,T,T,T] rfl rfl (any_of HT_.out (z_0)) (fun _ _ _ h => h) (Or.inl ⟨z_1, ?_⟩) ?_ ?_
          rotate_left
          ·intro w'
           go_simp
           with_reducible rfl
          rotate_left
          ·simp only [Act.put, List.setIfInBounds_toArray, List.set_cons_zero, List.set_cons_succ, i64_w, i32_w]
           rfl
          refine done_ (done_of HT_.out (z_0)) ?_
          try go_wp2
          go_ret
          exact ⟨z_13, z_28⟩
         ·rw [if_neg c12] at H
          have c12b0 : decide (0 ≤ t144) = false := decide_eq_false c12
          clear c12
          have H' := Aside0.mk H
          clear H
          have p136 : 0 ≤ (x7_1 : Int) := of_decide_eq_true (z_7)
          have q136 : x7_1 < (l0.length : Int) := of_decide_eq_true (z_7)
          obtain ⟨ad136, e136, hx136_0, hx136_1, hx136_2, hx136_3, hx136_4, hx136_5⟩ := at_T83 HR0.out x7_1 p136 q136
          cases e136
          replace hx136_0 := pw_cell_below HB.out hx136_0
          replace hx136_1 := pw_cell_below HB.out hx136_1
          replace hx136_2 := pw_cell_below HB.out hx136_2
          replace hx136_3 := pw_cell_below HB.out hx136_3
          replace hx136_4 := pw_cell_below HB.out hx136_4
          replace hx136_5 := pw_cell_below HB.out hx136_5
          replace p136 := eq_true p136
          replace q136 := eq_true q136
          try go_wp2_with (first | ((with_reducible refine gate_dst (N := 4) rfl ?_); refine box_event ?hg (N := 4) ?hd (cs := #[.string (⟨#[]⟩ : ByteArray), .int .i64 0, .int .i64 0, .string (⟨#[]⟩ : ByteArray), .int .i64 0, .int .i64 0]) (t := 83) ?hr ?_; (case hd => rfl); (case hg => rfl); (case hr => exact z_9); intro gb137 hg w20 hbox hb; have n0_ := Aside0.mk (below_step (z_8) hb); have n1_ := Aside0.mk (hbox); have n2_ := Aside0.mk ((z_20 : w.heap.size ≤ gb137)); have n3_ := Aside0.mk ((z_20 : w.heap.size ≤ gb137)); clear HB; have HB := n0_; have BK137 := n1_; have GW137 := n2_; have GE137 := n3_; clear n0_ n1_ n2_ n3_; clear hb hbox hg; have hcz21_0 : w20.cell? ⟨gb137, 0, none⟩ = some (.string (⟨#[]⟩ : ByteArray)) := (blk_cell BK137.out 0).trans rfl; have hcz21_1 : w20.cell? ⟨gb137, 1, none⟩ = some (.int .i64 0) := (blk_cell BK137.out 1).trans rfl; have hcz21_2 : w20.cell? ⟨gb137, 2, none⟩ = some (.int .i64 0) := (blk_cell BK137.out 2).trans rfl; have hcz21_3 : w20.cell? ⟨gb137, 3, none⟩ = some (.string (⟨#[]⟩ : ByteArray)) := (blk_cell BK137.out 3).trans rfl; have hcz21_4 : w20.cell? ⟨gb137, 4, none⟩ = some (.int .i64 0) := (blk_cell BK137.out 4).trans rfl; have hcz21_5 : w20.cell? ⟨gb137, 5, none⟩ = some (.int .i64 0) := (blk_cell BK137.out 5).trans rfl; have hfz21_0 := blk_frozen BK137.out 0; have hfz21_1 := blk_frozen BK137.out 1; have hfz21_2 := blk_frozen BK137.out 2; have hfz21_3 := blk_frozen BK137.out 3; have hfz21_4 := blk_frozen BK137.out 4; have hfz21_5 := blk_frozen BK137.out 5))
          have n0_ : Aside0 (((((((w20.setCell ⟨gb137, 0, none⟩ (.string ((rd_T83 l0 x7_1).f0.f0))).setCell ⟨gb137, 1, none⟩ (.int .i64 ((rd_T83 l0 x7_1).f0.f1))).setCell ⟨gb137, 2, none⟩ (.int .i64 ((rd_T83 l0 x7_1).f0.f2))).setCell ⟨gb137, 3, none⟩ (.string ((rd_T83 l0 x7_1).f0.f3))).setCell ⟨gb137, 4, none⟩ (.int .i64 ((rd_T83 l0 x7_1).f0.f4))).setCell ⟨gb137, 5, none⟩ (.int .i64 ((rd_T83 l0 x7_1).f1))).heap[gb137]? = some (.cells #[.string ((rd_T83 l0 x7_1).f0.f0), .int .i64 ((rd_T83 l0 x7_1).f0.f1), .int .i64 ((rd_T83 l0 x7_1).f0.f2), .string ((rd_T83 l0 x7_1).f0.f3), .int .i64 ((rd_T83 l0 x7_1).f0.f4), .int .i64 ((rd_T83 l0 x7_1).f1)] 83 (0, 0))) := ⟨z_27⟩
          have n1_ : Aside0 (Below w.heap.size w ((((((w20.setCell ⟨gb137, 0, none⟩ (.string ((rd_T83 l0 x7_1).f0.f0))).setCell ⟨gb137, 1, none⟩ (.int .i64 ((rd_T83 l0 x7_1).f0.f1))).setCell ⟨gb137, 2, none⟩ (.int .i64 ((rd_T83 l0 x7_1).f0.f2))).setCell ⟨gb137, 3, none⟩ (.string ((rd_T83 l0 x7_1).f0.f3))).setCell ⟨gb137, 4, none⟩ (.int .i64 ((rd_T83 l0 x7_1).f0.f4))).setCell ⟨gb137, 5, none⟩ (.int .i64 ((rd_T83 l0 x7_1).f1)))) := ⟨z_28⟩
          (try clear BK137)
          (try clear HB)
          generalize ((((((w20.setCell ⟨gb137, 0, none⟩ (.string ((rd_T83 l0 x7_1).f0.f0))).setCell ⟨gb137, 1, none⟩ (.int .i64 ((rd_T83 l0 x7_1).f0.f1))).setCell ⟨gb137, 2, none⟩ (.int .i64 ((rd_T83 l0 x7_1).f0.f2))).setCell ⟨gb137, 3, none⟩ (.string ((rd_T83 l0 x7_1).f0.f3))).setCell ⟨gb137, 4, none⟩ (.int .i64 ((rd_T83 l0 x7_1).f0.f4))).setCell ⟨gb137, 5, none⟩ (.int .i64 ((rd_T83 l0 x7_1).f1))) = w22 at n0_ n1_ ⊢
          have BK137 := n0_
          have HB := n1_
          clear n0_ n1_
          have n0_ := Aside0.mk (blk_drew BK137.out)
          have n1_ := Aside0.mk (below_drew1 HB.out)
          clear BK137
          clear HB
          have BK137 := n0_
          have HB := n1_
          clear n0_ n1_
          refine start_ (n := 20) (S := fun w' => w'.cell? ⟨gb137, 0, none⟩ = some (.string ((rd_T83 l0 x7_1).f0.f0)) ∧ w'.cell? ⟨gb137, 1, none⟩ = some (.int .i64 ((rd_T83 l0 x7_1).f0.f1)) ∧ w'.cell? ⟨gb137, 2, none⟩ = some (.int .i64 ((rd_T83 l0 x7_1).f0.f2)) ∧ w'.cell? ⟨gb137, 3, none⟩ = some (.string ((rd_T83 l0 x7_1).f0.f3)) ∧ w'.cell? ⟨gb137, 4, none⟩ = some (.int .i64 ((rd_T83 l0 x7_1).f0.f4)) ∧ w'.cell? ⟨gb137, 5, none⟩ = some (.int .i64 ((rd_T83 l0 x7_1).f1))) (ds := []) #[F,F,F,F,F,F,F,F,F,F,F,F,F,F,F,F,F,F,F,F] (z_0) rfl rfl ⟨(blk_cell BK137.out 0).trans rfl, (blk_cell BK137.out 1).trans rfl, (blk_cell BK137.out 2).trans rfl, (blk_cell BK137.out 3).trans rfl, (blk_cell BK137.out 4).trans rfl, (blk_cell BK137.out 5).trans rfl⟩ (fun hHeld => ?_); refine with_tabW impl_KeptOk.tab4 impl_KeptOk.bits4 (fun HT_ HW_ => ?_)
          generalize w22.drew = w23 at BK137 HB hHeld ⊢
          refine pure_ (i := 0) (N := some 12) (v := ?_) (a' := ?_) #[T,F,F,F,F,F,F,F,F,F,F,F,F,F,F,F,F,F,F,F] rfl rfl (any_of HT_.out (z_0)) (fun _ _ _ h => h) (Or.inl ⟨z_1, ?_⟩) ?_ ?_
          rotate_left
          ·intro w'
           go_simp
           with_reducible rfl
          rotate_left
          ·simp only [Act.put, List.setIfInBounds_toArray, List.set_cons_zero, List.set_cons_succ, i64_w, i32_w]
           rfl
          refine take_ (i := 1) (N := some 13) (v := ?_) (a' := ?_) #[T,T,F,F,F,F,F,F,F,F,F,F,F,F,F,F,F,F,F,F] rfl rfl (take_ofW HT_.out HW_.out (z_0)) (fun _ _ _ h => h) (Or.inl ⟨z_1, ?_⟩) hHeld ?_ ?_
          rotate_left
          ·rintro w' ⟨s0, s1, s2, s3, s4, s5⟩
           go_simp
           with_reducible rfl
          rotate_left
          ·simp only [Act.put, List.setIfInBounds_toArray, List.set_cons_zero, List.set_cons_succ, i64_w, i32_w]
           rfl
          refine one_ (i := 2) (N := some 14) #[T,T,T,F,F,F,F,F,F,F,F,F,F,F,F,F,F,F,F,F] rfl rfl (one_of HT_.out (z_0)) (z_5) (fun K hK => ?_)
          refine goes_ Try.func21 (z_0) rfl #[.agg #[.string ((rd_T83 l0 x7_1).f0.f0), .int .i64 ((rd_T83 l0 x7_1).f0.f1), .int .i64 ((rd_T83 l0 x7_1).f0.f2), .string ((rd_T83 l0 x7_1).f0.f3), .int .i64 ((rd_T83 l0 x7_1).f0.f4)]] (z_1) rfl rfl (z_14) ?_
          with_reducible refine (impl_NameOk.calls k1 ((rd_T83 l0 x7_1).f0.f0) ((rd_T83 l0 x7_1).f0.f1) ((rd_T83 l0 x7_1).f0.f2) ((rd_T83 l0 x7_1).f0.f3) ((rd_T83 l0 x7_1).f0.f4) true _ A5.out).mono ?_
          rintro e w24 ⟨rfl, hb⟩
          refine ⟨_, rfl, ?_⟩
          have n0_ := Aside0.mk (blk_below (g := gb137) (o := .cells #[.string ((rd_T83 l0 x7_1).f0.f0), .int .i64 ((rd_T83 l0 x7_1).f0.f1), .int .i64 ((rd_T83 l0 x7_1).f0.f2), .string ((rd_T83 l0 x7_1).f0.f3), .int .i64 ((rd_T83 l0 x7_1).f0.f4), .int .i64 ((rd_T83 l0 x7_1).f1)] 83 (0, 0)) (z_29) hb)
          have n1_ := Aside0.mk (below_step (z_28) hb)
          clear BK137
          clear HB
          have BK137 := n0_
          have HB := n1_
          clear n0_ n1_
          (try clear hb)
          (try clear hb2)
          (try clear hk)
          (try clear hi)
          refine hK.out _ _ ⟨(blk_cell BK137.out 0).trans rfl, (blk_cell BK137.out 1).trans rfl, (blk_cell BK137.out 2).trans rfl, (blk_cell BK137.out 3).trans rfl, (blk_cell BK137.out 4).trans rfl, (blk_cell BK137.out 5).trans rfl⟩ (fun hHeld => ?_)
          clear hK K
          refine norm_ (a' := ?_) ?_ ?_
          rotate_left
          ·show Act.put _ (some 14) _ = _
           simp only [Act.put, List.setIfInBounds_toArray, List.set_cons_zero, List.set_cons_succ, i64_w, i32_w]
           rfl
          refine pure_ (i := 3) (N := some 15) (v := ?_) (a' := ?_) #[T,T,T,T,F,F,F,F,F,F,F,F,F,F,F,F,F,F,F,F] rfl rfl (any_of HT_.out (z_0)) (fun _ _ _ h => h) (Or.inl ⟨z_1, ?_⟩) ?_ ?_
          rotate_left
          ·intro w'
           go_simp
           with_reducible rfl
          rotate_left
          ·simp only [Act.put, List.setIfInBounds_toArray, List.set_cons_zero, List.set_cons_succ, i64_w, i32_w]
           rfl
          refine pure_ (i := 4) (N := some 16) (v := ?_) (a' := ?_) #[T,T,T,T,T,F,F,F,F,F,F,F,F,F,F,F,F,F,F,F] rfl rfl (any_of HT_.out (z_0)) (fun _ _ _ h => h) (Or.inl ⟨z_1, ?_⟩) ?_ ?_
          rotate_left
          ·intro w'
           go_simp
           with_reducible rfl
          rotate_left
          ·simp only [Act.put, List.setIfInBounds_toArray, List.set_cons_zero, List.set_cons_succ, i64_w, i32_w]
           rfl
          refine pure_ (i := 5) (N := some 17) (v := ?_) (a' := ?_) #[T,T,T,T,T,T,F,F,F,F,F,F,F,F,F,F,F,F,F,F] rfl rfl (any_of HT_.out (z_0)) (fun _ _ _ h => h) (Or.inl ⟨z_1, ?_⟩) ?_ ?_
          rotate_left
          ·intro w'
           go_simp
           with_reducible rfl
          rotate_left
          ·simp only [Act.put, List.setIfInBounds_toArray, List.set_cons_zero, List.set_cons_succ, i64_w, i32_w]
           rfl
          refine take_ (i := 6) (N := some 18) (v := ?_) (a' := ?_) #[T,T,T,T,T,T,T,F,F,F,F,F,F,F,F,F,F,F,F,F] rfl rfl (take_ofW HT_.out HW_.out (z_0)) (fun _ _ _ h => h) (Or.inl ⟨z_1, ?_⟩) hHeld ?_ ?_
          rotate_left
          ·rintro w' ⟨s0, s1, s2, s3, s4, s5⟩
           go_simp
           with_reducible rfl
          rotate_left
          ·simp only [Act.put, List.setIfInBounds_toArray, List.set_cons_zero, List.set_cons_succ, i64_w, i32_w]
           rfl
          refine one_ (i := 7) (N := some 19) #[T,T,T,T,T,T,T,T,F,F,F,F,F,F,F,F,F,F,F,F] rfl rfl (one_of HT_.out (z_0)) (z_5) (fun K hK => ?_)
          refine goes_ Try.func57 (z_0) rfl #[.int .i64 ((rd_T83 l0 x7_1).f1), .int .i64 0, .int .i64 1000000] (z_1) rfl rfl (z_14) ?_
          with_reducible refine (impl_in.calls ((rd_T83 l0 x7_1).f1) 0 1000000 true _ A7.out).mono ?_
          rintro e w' ⟨rfl, ⟨nd, rfl⟩⟩
          refine ⟨_, rfl, ?_⟩
          have q25 : (x7_1 : Int) ≤ ((l0.length : Int) : Int) := of_decide_eq_true (z_7)
          obtain ⟨i025, hi025, _, hsz25, _⟩ := info_parts info83
          have hroom25 : l0.length ≤ c0 := HC0.out
          have hC25 : Kd.C k83 _ (some ad136) l0.length l0 := HR0.out
          have hcut25 := cut_to (P := Try.prog) 48 83 .i64 Try.underlying48 hi025 (some ad136) l0.length c0 x7_1 (of_decide_eq_true (z_7)) q25 hroom25
          have hr25 := Kd.C_take (m := (x7_1 : Int).toNat) hC25 (z_6)
          have hy25 : y140.length = (x7_1 : Int).toNat := (by rw [Ny140.out, List.length_take]; omega)
          rw [← Ny140.out] at hr25
          rw [← hy25] at hcut25
          have HR143 := Aside0.mk hr25
          have HC143 := Aside0.mk (show y140.length ≤ c0 from z_6)
          clear hr25 hC25 hroom25 hi025 hsz25
          have KY25 := Aside0.mk hy25
          clear hy25
          replace q25 := eq_true q25
          refine hK.out _ _ ⟨(blk_cell BK137.out 0).trans rfl, (blk_cell BK137.out 1).trans rfl, (blk_cell BK137.out 2).trans rfl, (blk_cell BK137.out 3).trans rfl, (blk_cell BK137.out 4).trans rfl, (blk_cell BK137.out 5).trans rfl⟩ (fun hHeld => ?_)
          clear hK K
          refine norm_ (a' := ?_) ?_ ?_
          rotate_left
          ·show Act.put _ (some 19) _ = _
           simp only [Act.put, List.setIfInBounds_toArray, List.set_cons_zero, List.set_cons_succ, i64_w, i32_w]
           rfl
          refine pure_ (i := 8) (N := some 20) (v := ?_) (a' := ?_) #[T,T,T,T,T,T,T,T,T,F,F,F,F,F,F,F,F,F,F,F] rfl rfl (any_of HT_.out (z_0)) (fun _ _ _ h => h) (Or.inl ⟨z_1, ?_⟩) ?_ ?_
          rotate_left
          ·intro w'
           go_simp
           with_reducible rfl
          rotate_left
          ·simp only [Act.put, List.setIfInBounds_toArray, List.set_cons_zero, List.set_cons_succ, i64_w, i32_w]
           rfl
          refine pure_ (i := 9) (N := some 21) (v := ?_) (a' := ?_) #[T,T,T,T,T,T,T,T,T,T,F,F,F,F,F,F,F,F,F,F] rfl rfl (any_of HT_.out (z_0)) (fun _ _ _ h => h) (Or.inl ⟨z_1, ?_⟩) ?_ ?_
          rotate_left
          ·intro w'
           go_simp
           with_reducible rfl
          rotate_left
          ·simp only [Act.put, List.setIfInBounds_toArray, List.set_cons_zero, List.set_cons_succ, i64_w, i32_w]
           rfl
          refine pure_ (i := 10) (N := some 22) (v := ?_) (a' := ?_) #[T,T,T,T,T,T,T,T,T,T,T,F,F,F,F,F,F,F,F,F] rfl rfl (any_of HT_.out (z_0)) (fun _ _ _ h => h) (Or.inl ⟨z_1, ?_⟩) ?_ ?_
          rotate_left
          ·intro w'
           go_simp
           with_reducible rfl
          rotate_left
          ·simp only [Act.put, List.setIfInBounds_toArray, List.set_cons_zero, List.set_cons_succ, i64_w, i32_w]
           rfl
          refine pure_ (i := 11) (N := some 23) (v := ?_) (a' := ?_) #[T,T,T,T,T,T,T,T,T,T,T,T,F,F,F,F,F,F,F,F] rfl rfl (any_of HT_.out (z_0)) (fun _ _ _ h => h) (Or.inl ⟨z_1, ?_⟩) ?_ ?_
          rotate_left
          ·intro w'
           go_simp
           with_reducible rfl
          rotate_left
          ·simp only [Act.put, List.setIfInBounds_toArray, List.set_cons_zero, List.set_cons_succ, i64_w, i32_w]
           rfl
          refine pure_ (i := 12) (N := some 24) (v := ?_) (a' := ?_) #[T,T,T,T,T,T,T,T,T,T,T,T,T,F,F,F,F,F,F,F] rfl rfl (any_of HT_.out (z_0)) (fun _ _ _ h => h) (Or.inl ⟨z_1, ?_⟩) ?_ ?_
          rotate_left
          ·intro w'
           go_simp
           with_reducible rfl
          rotate_left
          ·simp only [Act.put, List.setIfInBounds_toArray, List.set_cons_zero, List.set_cons_succ, i64_w, i32_w]
           rfl
          refine pure_ (i := 13) (N := some 25) (v := ?_) (a' := ?_) #[T,T,T,T,T,T,T,T,T,T,T,T,T,T,F,F,F,F,F,F] rfl rfl (any_of HT_.out (z_0)) (fun _ _ _ h => h) (Or.inl ⟨z_1, ?_⟩) ?_ ?_
          rotate_left
          ·intro w'
           go_simp
           with_reducible rfl
          rotate_left
          ·simp only [Act.put, List.setIfInBounds_toArray, List.set_cons_zero, List.set_cons_succ, i64_w, i32_w]
           rfl
          refine pure_ (i := 14) (N := some 26) (v := ?_) (a' := ?_) #[T,T,T,T,T,T,T,T,T,T,T,T,T,T,T,F,F,F,F,F] rfl rfl (any_of HT_.out (z_0)) (fun _ _ _ h => h) (Or.inl ⟨z_1, ?_⟩) ?_ ?_
          rotate_left
          ·intro w'
           go_simp
           with_reducible rfl
          rotate_left
          ·simp only [Act.put, List.setIfInBounds_toArray, List.set_cons_zero, List.set_cons_succ, i64_w, i32_w]
           rfl
          refine pure_ (i := 15) (N := some 27) (v := ?_) (a' := ?_) #[T,T,T,T,T,T,T,T,T,T,T,T,T,T,T,T,F,F,F,F] rfl rfl (any_of HT_.out (z_0)) (fun _ _ _ h => h) (Or.inl ⟨z_1, ?_⟩) ?_ ?_
          rotate_left
          ·intro w'
           go_simp
           with_reducible rfl
          rotate_left
          ·simp only [Act.put, List.setIfInBounds_toArray, List.set_cons_zero, List.set_cons_succ, i64_w, i32_w]
           rfl
          refine take_ (i := 16) (N := some 28) (v := ?_) (a' := ?_) #[T,T,T,T,T,T,T,T,T,T,T,T,T,T,T,T,T,F,F,F] rfl rfl (take_ofW HT_.out HW_.out (z_0)) (fun _ _ _ h => h) (Or.inl ⟨z_1, ?_⟩) hHeld ?_ ?_
          rotate_left
          ·rintro w' ⟨s0, s1, s2, s3, s4, s5⟩
           go_simp
           with_reducible rfl
          rotate_left
          ·simp only [Act.put, List.setIfInBounds_toArray, List.set_cons_zero, List.set_cons_succ, i64_w, i32_w]
           rfl
          refine one_ (i := 17) (N := some 29) #[T,T,T,T,T,T,T,T,T,T,T,T,T,T,T,T,T,T,F,F] rfl rfl (one_of HT_.out (z_0)) (z_5) (fun K hK => ?_)
          refine goes_ Try.func66 (z_0) rfl #[.slice (some ad136) y140.length c0, .string ((rd_T83 l0 x7_1).f0.f0)] (z_1) rfl rfl (z_14) ?_
          with_reducible refine (impl_keptAt.calls k1 _ _ y140 ((rd_T83 l0 x7_1).f0.f0) t144 _ ?side1 ?side2 A11.out).mono ?_
          (case side1 => exact z_30)
          (case side2 => exact HC143.out)
          rintro e w26 ⟨rfl, hb⟩
          refine ⟨_, rfl, ?_⟩
          have n0_ := Aside0.mk (blk_below (g := gb137) (o := .cells #[.string ((rd_T83 l0 x7_1).f0.f0), .int .i64 ((rd_T83 l0 x7_1).f0.f1), .int .i64 ((rd_T83 l0 x7_1).f0.f2), .string ((rd_T83 l0 x7_1).f0.f3), .int .i64 ((rd_T83 l0 x7_1).f0.f4), .int .i64 ((rd_T83 l0 x7_1).f1)] 83 (0, 0)) (z_29) hb)
          have n1_ := Aside0.mk (below_step (z_28) hb)
          clear BK137
          clear HB
          have BK137 := n0_
          have HB := n1_
          clear n0_ n1_
          (try clear hb)
          (try clear hb2)
          (try clear hk)
          (try clear hi)
          refine hK.out _ _ ⟨(blk_cell BK137.out 0).trans rfl, (blk_cell BK137.out 1).trans rfl, (blk_cell BK137.out 2).trans rfl, (blk_cell BK137.out 3).trans rfl, (blk_cell BK137.out 4).trans rfl, (blk_cell BK137.out 5).trans rfl⟩ (fun hHeld => ?_)
          clear hK K
          refine norm_ (a' := ?_) ?_ ?_
          rotate_left
          ·show Act.put _ (some 29) _ = _
           simp only [Act.put, List.setIfInBounds_toArray, List.set_cons_zero, List.set_cons_succ, i64_w, i32_w]
           rfl
          refine pure_ (i := 18) (N := some 30) (v := ?_) (a' := ?_) #[T,T,T,T,T,T,T,T,T,T,T,T,T,T,T,T,T,T,T,F] rfl rfl (any_of HT_.out (z_0)) (fun _ _ _ h => h) (Or.inl ⟨z_1, ?_⟩) ?_ ?_
          rotate_left
          ·intro w'
           go_simp
           with_reducible rfl
          rotate_left
          ·simp only [Act.put, List.setIfInBounds_toArray, List.set_cons_zero, List.set_cons_succ, i64_w, i32_w]
           rfl
          refine pure_ (i := 19) (N := some 31) (v := ?_) (a' := ?_) #[T,T,T,T,T,T,T,T,T,T,T,T,T,T,T,T,T,T,T,T] rfl rfl (any_of HT_.out (z_0)) (fun _ _ _ h => h) (Or.inl ⟨z_1, ?_⟩) ?_ ?_
          rotate_left
          ·intro w'
           go_simp
           with_reducible rfl
          rotate_left
          ·simp only [Act.put, List.setIfInBounds_toArray, List.set_cons_zero, List.set_cons_succ, i64_w, i32_w]
           rfl
          refine done_ (done_of HT_.out (z_0)) ?_
          try go_wp2
          go_roundg k1
          case measure => have := HK1.out; omega
          case rel => exact ⟨(wrap64 (x7_1 + 1)), (z_3), H', ⟨z_10⟩, ⟨z_28⟩⟩
        ·rw [if_neg c10] at H
         exact absurd H (z_12)
       ·replace c8 := Bool.eq_false_iff.mpr c8
        subst c8
        rw [if_neg (show ¬ (false = true) by decide)] at H
        obtain rfl := Option.some.inj H
        have p136 : 0 ≤ (x7_1 : Int) := of_decide_eq_true (z_7)
        have q136 : x7_1 < (l0.length : Int) := of_decide_eq_true (z_7)
        obtain ⟨ad136, e136, hx136_0, hx136_1, hx136_2, hx136_3, hx136_4, hx136_5⟩ := at_T83 HR0.out x7_1 p136 q136
        cases e136
        replace hx136_0 := pw_cell_below HB.out hx136_0
        replace hx136_1 := pw_cell_below HB.out hx136_1
        replace hx136_2 := pw_cell_below HB.out hx136_2
        replace hx136_3 := pw_cell_below HB.out hx136_3
        replace hx136_4 := pw_cell_below HB.out hx136_4
        replace hx136_5 := pw_cell_below HB.out hx136_5
        replace p136 := eq_true p136
        replace q136 := eq_true q136
        try go_wp2_with (first | ((with_reducible refine gate_dst (N := 4) rfl ?_); refine box_event ?hg (N := 4) ?hd (cs := #[.string (⟨#[]⟩ : ByteArray), .int .i64 0, .int .i64 0, .string (⟨#[]⟩ : ByteArray), .int .i64 0, .int .i64 0]) (t := 83) ?hr ?_; (case hd => rfl); (case hg => rfl); (case hr => exact z_9); intro gb137 hg w27 hbox hb; have n0_ := Aside0.mk (below_step (z_8) hb); have n1_ := Aside0.mk (hbox); have n2_ := Aside0.mk ((z_20 : w.heap.size ≤ gb137)); have n3_ := Aside0.mk ((z_20 : w.heap.size ≤ gb137)); clear HB; have HB := n0_; have BK137 := n1_; have GW137 := n2_; have GE137 := n3_; clear n0_ n1_ n2_ n3_; clear hb hbox hg; have hcz28_0 : w27.cell? ⟨gb137, 0, none⟩ = some (.string (⟨#[]⟩ : ByteArray)) := (blk_cell BK137.out 0).trans rfl; have hcz28_1 : w27.cell? ⟨gb137, 1, none⟩ = some (.int .i64 0) := (blk_cell BK137.out 1).trans rfl; have hcz28_2 : w27.cell? ⟨gb137, 2, none⟩ = some (.int .i64 0) := (blk_cell BK137.out 2).trans rfl; have hcz28_3 : w27.cell? ⟨gb137, 3, none⟩ = some (.string (⟨#[]⟩ : ByteArray)) := (blk_cell BK137.out 3).trans rfl; have hcz28_4 : w27.cell? ⟨gb137, 4, none⟩ = some (.int .i64 0) := (blk_cell BK137.out 4).trans rfl; have hcz28_5 : w27.cell? ⟨gb137, 5, none⟩ = some (.int .i64 0) := (blk_cell BK137.out 5).trans rfl; have hfz28_0 := blk_frozen BK137.out 0; have hfz28_1 := blk_frozen BK137.out 1; have hfz28_2 := blk_frozen BK137.out 2; have hfz28_3 := blk_frozen BK137.out 3; have hfz28_4 := blk_frozen BK137.out 4; have hfz28_5 := blk_frozen BK137.out 5))
        have n0_ : Aside0 (((((((w27.setCell ⟨gb137, 0, none⟩ (.string ((rd_T83 l0 x7_1).f0.f0))).setCell ⟨gb137, 1, none⟩ (.int .i64 ((rd_T83 l0 x7_1).f0.f1))).setCell ⟨gb137, 2, none⟩ (.int .i64 ((rd_T83 l0 x7_1).f0.f2))).setCell ⟨gb137, 3, none⟩ (.string ((rd_T83 l0 x7_1).f0.f3))).setCell ⟨gb137, 4, none⟩ (.int .i64 ((rd_T83 l0 x7_1).f0.f4))).setCell ⟨gb137, 5, none⟩ (.int .i64 ((rd_T83 l0 x7_1).f1))).heap[gb137]? = some (.cells #[.string ((rd_T83 l0 x7_1).f0.f0), .int .i64 ((rd_T83 l0 x7_1).f0.f1), .int .i64 ((rd_T83 l0 x7_1).f0.f2), .string ((rd_T83 l0 x7_1).f0.f3), .int .i64 ((rd_T83 l0 x7_1).f0.f4), .int .i64 ((rd_T83 l0 x7_1).f1)] 83 (0, 0))) := ⟨z_27⟩
        have n1_ : Aside0 (Below w.heap.size w ((((((w27.setCell ⟨gb137, 0, none⟩ (.string ((rd_T83 l0 x7_1).f0.f0))).setCell ⟨gb137, 1, none⟩ (.int .i64 ((rd_T83 l0 x7_1).f0.f1))).setCell ⟨gb137, 2, none⟩ (.int .i64 ((rd_T83 l0 x7_1).f0.f2))).setCell ⟨gb137, 3, none⟩ (.string ((rd_T83 l0 x7_1).f0.f3))).setCell ⟨gb137, 4, none⟩ (.int .i64 ((rd_T83 l0 x7_1).f0.f4))).setCell ⟨gb137, 5, none⟩ (.int .i64 ((rd_T83 l0 x7_1).f1)))) := ⟨z_28⟩
        (try clear BK137)
        (try clear HB)
        generalize ((((((w27.setCell ⟨gb137, 0, none⟩ (.string ((rd_T83 l0 x7_1).f0.f0))).setCell ⟨gb137, 1, none⟩ (.int .i64 ((rd_T83 l0 x7_1).f0.f1))).setCell ⟨gb137, 2, none⟩ (.int .i64 ((rd_T83 l0 x7_1).f0.f2))).setCell ⟨gb137, 3, none⟩ (.string ((rd_T83 l0 x7_1).f0.f3))).setCell ⟨gb137, 4, none⟩ (.int .i64 ((rd_T83 l0 x7_1).f0.f4))).setCell ⟨gb137, 5, none⟩ (.int .i64 ((rd_T83 l0 x7_1).f1))) = w29 at n0_ n1_ ⊢
        have BK137 := n0_
        have HB := n1_
        clear n0_ n1_
        have n0_ := Aside0.mk (blk_drew BK137.out)
        have n1_ := Aside0.mk (below_drew1 HB.out)
        clear BK137
        clear HB
        have BK137 := n0_
        have HB := n1_
        clear n0_ n1_
        refine start_ (n := 20) (S := fun w' => w'.cell? ⟨gb137, 0, none⟩ = some (.string ((rd_T83 l0 x7_1).f0.f0)) ∧ w'.cell? ⟨gb137, 1, none⟩ = some (.int .i64 ((rd_T83 l0 x7_1).f0.f1)) ∧ w'.cell? ⟨gb137, 2, none⟩ = some (.int .i64 ((rd_T83 l0 x7_1).f0.f2)) ∧ w'.cell? ⟨gb137, 3, none⟩ = some (.string ((rd_T83 l0 x7_1).f0.f3)) ∧ w'.cell? ⟨gb137, 4, none⟩ = some (.int .i64 ((rd_T83 l0 x7_1).f0.f4)) ∧ w'.cell? ⟨gb137, 5, none⟩ = some (.int .i64 ((rd_T83 l0 x7_1).f1))) (ds := []) #[F,F,F,F,F,F,F,F,F,F,F,F,F,F,F,F,F,F,F,F] (z_0) rfl rfl ⟨(blk_cell BK137.out 0).trans rfl, (blk_cell BK137.out 1).trans rfl, (blk_cell BK137.out 2).trans rfl, (blk_cell BK137.out 3).trans rfl, (blk_cell BK137.out 4).trans rfl, (blk_cell BK137.out 5).trans rfl⟩ (fun hHeld => ?_); refine with_tabW impl_KeptOk.tab4 impl_KeptOk.bits4 (fun HT_ HW_ => ?_)
        generalize w29.drew = w30 at BK137 HB hHeld ⊢
        refine pure_ (i := 0) (N := some 12) (v := ?_) (a' := ?_) #[T,F,F,F,F,F,F,F,F,F,F,F,F,F,F,F,F,F,F,F] rfl rfl (any_of HT_.out (z_0)) (fun _ _ _ h => h) (Or.inl ⟨z_1, ?_⟩) ?_ ?_
        rotate_left
        ·intro w'
         go_simp
         with_reducible rfl
        rotate_left
        ·simp only [Act.put, List.setIfInBounds_toArray, List.set_cons_zero, List.set_cons_succ, i64_w, i32_w]
         rfl
        refine take_ (i := 1) (N := some 13) (v := ?_) (a' := ?_) #[T,T,F,F,F,F,F,F,F,F,F,F,F,F,F,F,F,F,F,F] rfl rfl (take_ofW HT_.out HW_.out (z_0)) (fun _ _ _ h => h) (Or.inl ⟨z_1, ?_⟩) hHeld ?_ ?_
        rotate_left
        ·rintro w' ⟨s0, s1, s2, s3, s4, s5⟩
         go_simp
         with_reducible rfl
        rotate_left
        ·simp only [Act.put, List.setIfInBounds_toArray, List.set_cons_zero, List.set_cons_succ, i64_w, i32_w]
         rfl
        refine one_ (i := 2) (N := some 14) #[T,T,T,F,F,F,F,F,F,F,F,F,F,F,F,F,F,F,F,F] rfl rfl (one_of HT_.out (z_0)) (z_5) (fun K hK => ?_)
        refine goes_ Try.func21 (z_0) rfl #[.agg #[.string ((rd_T83 l0 x7_1).f0.f0), .int .i64 ((rd_T83 l0 x7_1).f0.f1), .int .i64 ((rd_T83 l0 x7_1).f0.f2), .string ((rd_T83 l0 x7_1).f0.f3), .int .i64 ((rd_T83 l0 x7_1).f0.f4)]] (z_1) rfl rfl (z_14) ?_
        with_reducible refine (impl_NameOk.calls k1 ((rd_T83 l0 x7_1).f0.f0) ((rd_T83 l0 x7_1).f0.f1) ((rd_T83 l0 x7_1).f0.f2) ((rd_T83 l0 x7_1).f0.f3) ((rd_T83 l0 x7_1).f0.f4) true _ A5.out).mono ?_
        rintro e w31 ⟨rfl, hb⟩
        refine ⟨_, rfl, ?_⟩
        have n0_ := Aside0.mk (blk_below (g := gb137) (o := .cells #[.string ((rd_T83 l0 x7_1).f0.f0), .int .i64 ((rd_T83 l0 x7_1).f0.f1), .int .i64 ((rd_T83 l0 x7_1).f0.f2), .string ((rd_T83 l0 x7_1).f0.f3), .int .i64 ((rd_T83 l0 x7_1).f0.f4), .int .i64 ((rd_T83 l0 x7_1).f1)] 83 (0, 0)) (z_29) hb)
        have n1_ := Aside0.mk (below_step (z_28) hb)
        clear BK137
        clear HB
        have BK137 := n0_
        have HB := n1_
        clear n0_ n1_
        (try clear hb)
        (try clear hb2)
        (try clear hk)
        (try clear hi)
        refine hK.out _ _ ⟨(blk_cell BK137.out 0).trans rfl, (blk_cell BK137.out 1).trans rfl, (blk_cell BK137.out 2).trans rfl, (blk_cell BK137.out 3).trans rfl, (blk_cell BK137.out 4).trans rfl, (blk_cell BK137.out 5).trans rfl⟩ (fun hHeld => ?_)
        clear hK K
        refine norm_ (a' := ?_) ?_ ?_
        rotate_left
        ·show Act.put _ (some 14) _ = _
         simp only [Act.put, List.setIfInBounds_toArray, List.set_cons_zero, List.set_cons_succ, i64_w, i32_w]
         rfl
        refine pure_ (i := 3) (N := some 15) (v := ?_) (a' := ?_) #[T,T,T,T,F,F,F,F,F,F,F,F,F,F,F,F,F,F,F,F] rfl rfl (any_of HT_.out (z_0)) (fun _ _ _ h => h) (Or.inl ⟨z_1, ?_⟩) ?_ ?_
        rotate_left
        ·intro w'
         go_simp
         with_reducible rfl
        rotate_left
        ·simp only [Act.put, List.setIfInBounds_toArray, List.set_cons_zero, List.set_cons_succ, i64_w, i32_w]
         rfl
        refine pure_ (i := 4) (N := some 16) (v := ?_) (a' := ?_) #[T,T,T,T,T,F,F,F,F,F,F,F,F,F,F,F,F,F,F,F] rfl rfl (any_of HT_.out (z_0)) (fun _ _ _ h => h) (Or.inl ⟨z_1, ?_⟩) ?_ ?_
        rotate_left
        ·intro w'
         go_simp
         with_reducible rfl
        rotate_left
        ·simp only [Act.put, List.setIfInBounds_toArray, List.set_cons_zero, List.set_cons_succ, i64_w, i32_w]
         rfl
        refine pure_ (i := 5) (N := some 17) (v := ?_) (a' := ?_) #[T,T,T,T,T,T,F,F,F,F,F,F,F,F,F,F,F,F,F,F] rfl rfl (any_of HT_.out (z_0)) (fun _ _ _ h => h) (Or.inl ⟨z_1, ?_⟩) ?_ ?_
        rotate_left
        ·intro w'
         go_simp
         with_reducible rfl
        rotate_left
        ·simp only [Act.put, List.setIfInBounds_toArray, List.set_cons_zero, List.set_cons_succ, i64_w, i32_w]
         rfl
        refine take_ (i := 6) (N := some 18) (v := ?_) (a' := ?_) #[T,T,T,T,T,T,T,F,F,F,F,F,F,F,F,F,F,F,F,F] rfl rfl (take_ofW HT_.out HW_.out (z_0)) (fun _ _ _ h => h) (Or.inl ⟨z_1, ?_⟩) hHeld ?_ ?_
        rotate_left
        ·rintro w' ⟨s0, s1, s2, s3, s4, s5⟩
         go_simp
         with_reducible rfl
        rotate_left
        ·simp only [Act.put, List.setIfInBounds_toArray, List.set_cons_zero, List.set_cons_succ, i64_w, i32_w]
         rfl
        refine one_ (i := 7) (N := some 19) #[T,T,T,T,T,T,T,T,F,F,F,F,F,F,F,F,F,F,F,F] rfl rfl (one_of HT_.out (z_0)) (z_5) (fun K hK => ?_)
        refine goes_ Try.func57 (z_0) rfl #[.int .i64 ((rd_T83 l0 x7_1).f1), .int .i64 0, .int .i64 1000000] (z_1) rfl rfl (z_14) ?_
        with_reducible refine (impl_in.calls ((rd_T83 l0 x7_1).f1) 0 1000000 false _ A7.out).mono ?_
        rintro e w' ⟨rfl, ⟨nd, rfl⟩⟩
        refine ⟨_, rfl, ?_⟩
        refine hK.out _ _ ⟨(blk_cell BK137.out 0).trans rfl, (blk_cell BK137.out 1).trans rfl, (blk_cell BK137.out 2).trans rfl, (blk_cell BK137.out 3).trans rfl, (blk_cell BK137.out 4).trans rfl, (blk_cell BK137.out 5).trans rfl⟩ (fun hHeld => ?_)
        clear hK K
        refine norm_ (a' := ?_) ?_ ?_
        rotate_left
        ·show Act.put _ (some 19) _ = _
         simp only [Act.put, List.setIfInBounds_toArray, List.set_cons_zero, List.set_cons_succ, i64_w, i32_w]
         rfl
        refine pure_ (i := 8) (N := some 20) (v := ?_) (a' := ?_) #[T,T,T,T,T,T,T,T,T,F,F,F,F,F,F,F,F,F,F,F] rfl rfl (any_of HT_.out (z_0)) (fun _ _ _ h => h) (Or.inl ⟨z_1, ?_⟩) ?_ ?_
        rotate_left
        ·intro w'
         go_simp
         with_reducible rfl
        rotate_left
        ·simp only [Act.put, List.setIfInBounds_toArray, List.set_cons_zero, List.set_cons_succ, i64_w, i32_w]
         rfl
        refine pure_ (i := 9) (N := some 21) (v := ?_) (a' := ?_) #[T,T,T,T,T,T,T,T,T,T,F,F,F,F,F,F,F,F,F,F] rfl rfl (any_of HT_.out (z_0)) (fun _ _ _ h => h) (Or.inl ⟨z_1, ?_⟩) ?_ ?_
        rotate_left
        ·intro w'
         go_simp
         with_reducible rfl
        rotate_left
        ·simp only [Act.put, List.setIfInBounds_toArray, List.set_cons_zero, List.set_cons_succ, i64_w, i32_w]
         rfl
        refine pure_ (i := 10) (N := some 22) (v := ?_) (a' := ?_) #[T,T,T,T,T,T,T,T,T,T,T,F,F,F,F,F,F,F,F,F] rfl rfl (any_of HT_.out (z_0)) (fun _ _ _ h => h) (Or.inl ⟨z_1, ?_⟩) ?_ ?_
        rotate_left
        ·intro w'
         go_simp
         with_reducible rfl
        rotate_left
        ·simp only [Act.put, List.setIfInBounds_toArray, List.set_cons_zero, List.set_cons_succ, i64_w, i32_w]
         rfl
        refine pure_ (i := 11) (N := some 23) (v := undef) (a' := ?_) #[T,T,T,T,T,T,T,T,T,T,T,T,F,F,F,F,F,F,F,F] rfl rfl (any_of HT_.out (z_0)) (fun _ _ _ h => h) (Or.inr ⟨z_1, rfl⟩) ?_ ?_
        rotate_left
        ·simp only [Act.put, List.setIfInBounds_toArray, List.set_cons_zero, List.set_cons_succ, i64_w, i32_w]
         rfl
        refine pure_ (i := 12) (N := some 24) (v := undef) (a' := ?_) #[T,T,T,T,T,T,T,T,T,T,T,T,T,F,F,F,F,F,F,F] rfl rfl (any_of HT_.out (z_0)) (fun _ _ _ h => h) (Or.inr ⟨z_1, rfl⟩) ?_ ?_
        rotate_left
        ·simp only [Act.put, List.setIfInBounds_toArray, List.set_cons_zero, List.set_cons_succ, i64_w, i32_w]
         rfl
        refine pure_ (i := 13) (N := some 25) (v := undef) (a' := ?_) #[T,T,T,T,T,T,T,T,T,T,T,T,T,T,F,F,F,F,F,F] rfl rfl (any_of HT_.out (z_0)) (fun _ _ _ h => h) (Or.inr ⟨z_1, rfl⟩) ?_ ?_
        rotate_left
        ·simp only [Act.put, List.setIfInBounds_toArray, List.set_cons_zero, List.set_cons_succ, i64_w, i32_w]
         rfl
        refine pure_ (i := 14) (N := some 26) (v := undef) (a' := ?_) #[T,T,T,T,T,T,T,T,T,T,T,T,T,T,T,F,F,F,F,F] rfl rfl (any_of HT_.out (z_0)) (fun _ _ _ h => h) (Or.inr ⟨z_1, rfl⟩) ?_ ?_
        rotate_left
        ·simp only [Act.put, List.setIfInBounds_toArray, List.set_cons_zero, List.set_cons_succ, i64_w, i32_w]
         rfl
        refine pure_ (i := 15) (N := some 27) (v := undef) (a' := ?_) #[T,T,T,T,T,T,T,T,T,T,T,T,T,T,T,T,F,F,F,F] rfl rfl (any_of HT_.out (z_0)) (fun _ _ _ h => h) (Or.inr ⟨z_1, rfl⟩) ?_ ?_
        rotate_left
        ·simp only [Act.put, List.setIfInBounds_toArray, List.set_cons_zero, List.set_cons_succ, i64_w, i32_w]
         rfl
        refine pure_ (i := 16) (N := some 28) (v := undef) (a' := ?_) #[T,T,T,T,T,T,T,T,T,T,T,T,T,T,T,T,T,F,F,F] rfl rfl (any_of HT_.out (z_0)) (fun _ _ _ h => h) (Or.inr ⟨z_1, rfl⟩) ?_ ?_
        rotate_left
        ·simp only [Act.put, List.setIfInBounds_toArray, List.set_cons_zero, List.set_cons_succ, i64_w, i32_w]
         rfl
        refine pure_ (i := 17) (N := some 29) (v := undef) (a' := ?_) #[T,T,T,T,T,T,T,T,T,T,T,T,T,T,T,T,T,T,F,F] rfl rfl (any_of HT_.out (z_0)) (fun _ _ _ h => h) (Or.inr ⟨z_1, rfl⟩) ?_ ?_
        rotate_left
        ·simp only [Act.put, List.setIfInBounds_toArray, List.set_cons_zero, List.set_cons_succ, i64_w, i32_w]
         rfl
        refine pure_ (i := 18) (N := some 30) (v := undef) (a' := ?_) #[T,T,T,T,T,T,T,T,T,T,T,T,T,T,T,T,T,T,T,F] rfl rfl (any_of HT_.out (z_0)) (fun _ _ _ h => h) (Or.inr ⟨z_1, rfl⟩) ?_ ?_
        rotate_left
        ·simp only [Act.put, List.setIfInBounds_toArray, List.set_cons_zero, List.set_cons_succ, i64_w, i32_w]
         rfl
        refine pure_ (i := 19) (N := some 31) (v := ?_) (a' := ?_) #[T,T,T,T,T,T,T,T,T,T,T,T,T,T,T,T,T,T,T,T] rfl rfl (any_of HT_.out (z_0)) (fun _ _ _ h => h) (Or.inl ⟨z_1, ?_⟩) ?_ ?_
        rotate_left
        ·intro w'
         go_simp
         with_reducible rfl
        rotate_left
        ·simp only [Act.put, List.setIfInBounds_toArray, List.set_cons_zero, List.set_cons_succ, i64_w, i32_w]
         rfl
        refine done_ (done_of HT_.out (z_0)) ?_
        try go_wp2
        go_ret
        exact ⟨z_13, z_28⟩
      ·replace c6 := Bool.eq_false_iff.mpr c6
       subst c6
       rw [if_neg (show ¬ (false = true) by decide)] at H
       obtain rfl := Option.some.inj H
       have p136 : 0 ≤ (x7_1 : Int) := of_decide_eq_true (z_7)
       have q136 : x7_1 < (l0.length : Int) := of_decide_eq_true (z_7)
       obtain ⟨ad136, e136, hx136_0, hx136_1, hx136_2, hx136_3, hx136_4, hx136_5⟩ := at_T83 HR0.out x7_1 p136 q136
       cases e136
       replace hx136_0 := pw_cell_below HB.out hx136_0
       replace hx136_1 := pw_cell_below HB.out hx136_1
       replace hx136_2 := pw_cell_below HB.out hx136_2
       replace hx136_3 := pw_cell_below HB.out hx136_3
       replace hx136_4 := pw_cell_below HB.out hx136_4
       replace hx136_5 := pw_cell_below HB.out hx136_5
       replace p136 := eq_true p136
       replace q136 := eq_true q136
       try go_wp2_with (first | ((with_reducible refine gate_dst (N := 4) rfl ?_); refine box_event ?hg (N := 4) ?hd (cs := #[.string (⟨#[]⟩ : ByteArray), .int .i64 0, .int .i64 0, .string (⟨#[]⟩ : ByteArray), .int .i64 0, .int .i64 0]) (t := 83) ?hr ?_; (case hd => rfl); (case hg => rfl); (case hr => exact z_9); intro gb137 hg w32 hbox hb; have n0_ := Aside0.mk (below_step (z_8) hb); have n1_ := Aside0.mk (hbox); have n2_ := Aside0.mk ((z_20 : w.heap.size ≤ gb137)); have n3_ := Aside0.mk ((z_20 : w.heap.size ≤ gb137)); clear HB; have HB := n0_; have BK137 := n1_; have GW137 := n2_; have GE137 := n3_; clear n0_ n1_ n2_ n3_; clear hb hbox hg; have hcz33_0 : w32.cell? ⟨gb137, 0, none⟩ = some (.string (⟨#[]⟩ : ByteArray)) := (blk_cell BK137.out 0).trans rfl; have hcz33_1 : w32.cell? ⟨gb137, 1, none⟩ = some (.int .i64 0) := (blk_cell BK137.out 1).trans rfl; have hcz33_2 : w32.cell? ⟨gb137, 2, none⟩ = some (.int .i64 0) := (blk_cell BK137.out 2).trans rfl; have hcz33_3 : w32.cell? ⟨gb137, 3, none⟩ = some (.string (⟨#[]⟩ : ByteArray)) := (blk_cell BK137.out 3).trans rfl; have hcz33_4 : w32.cell? ⟨gb137, 4, none⟩ = some (.int .i64 0) := (blk_cell BK137.out 4).trans rfl; have hcz33_5 : w32.cell? ⟨gb137, 5, none⟩ = some (.int .i64 0) := (blk_cell BK137.out 5).trans rfl; have hfz33_0 := blk_frozen BK137.out 0; have hfz33_1 := blk_frozen BK137.out 1; have hfz33_2 := blk_frozen BK137.out 2; have hfz33_3 := blk_frozen BK137.out 3; have hfz33_4 := blk_frozen BK137.out 4; have hfz33_5 := blk_frozen BK137.out 5))
       have n0_ : Aside0 (((((((w32.setCell ⟨gb137, 0, none⟩ (.string ((rd_T83 l0 x7_1).f0.f0))).setCell ⟨gb137, 1, none⟩ (.int .i64 ((rd_T83 l0 x7_1).f0.f1))).setCell ⟨gb137, 2, none⟩ (.int .i64 ((rd_T83 l0 x7_1).f0.f2))).setCell ⟨gb137, 3, none⟩ (.string ((rd_T83 l0 x7_1).f0.f3))).setCell ⟨gb137, 4, none⟩ (.int .i64 ((rd_T83 l0 x7_1).f0.f4))).setCell ⟨gb137, 5, none⟩ (.int .i64 ((rd_T83 l0 x7_1).f1))).heap[gb137]? = some (.cells #[.string ((rd_T83 l0 x7_1).f0.f0), .int .i64 ((rd_T83 l0 x7_1).f0.f1), .int .i64 ((rd_T83 l0 x7_1).f0.f2), .string ((rd_T83 l0 x7_1).f0.f3), .int .i64 ((rd_T83 l0 x7_1).f0.f4), .int .i64 ((rd_T83 l0 x7_1).f1)] 83 (0, 0))) := ⟨z_27⟩
       have n1_ : Aside0 (Below w.heap.size w ((((((w32.setCell ⟨gb137, 0, none⟩ (.string ((rd_T83 l0 x7_1).f0.f0))).setCell ⟨gb137, 1, none⟩ (.int .i64 ((rd_T83 l0 x7_1).f0.f1))).setCell ⟨gb137, 2, none⟩ (.int .i64 ((rd_T83 l0 x7_1).f0.f2))).setCell ⟨gb137, 3, none⟩ (.string ((rd_T83 l0 x7_1).f0.f3))).setCell ⟨gb137, 4, none⟩ (.int .i64 ((rd_T83 l0 x7_1).f0.f4))).setCell ⟨gb137, 5, none⟩ (.int .i64 ((rd_T83 l0 x7_1).f1)))) := ⟨z_28⟩
       (try clear BK137)
       (try clear HB)
       generalize ((((((w32.setCell ⟨gb137, 0, none⟩ (.string ((rd_T83 l0 x7_1).f0.f0))).setCell ⟨gb137, 1, none⟩ (.int .i64 ((rd_T83 l0 x7_1).f0.f1))).setCell ⟨gb137, 2, none⟩ (.int .i64 ((rd_T83 l0 x7_1).f0.f2))).setCell ⟨gb137, 3, none⟩ (.string ((rd_T83 l0 x7_1).f0.f3))).setCell ⟨gb137, 4, none⟩ (.int .i64 ((rd_T83 l0 x7_1).f0.f4))).setCell ⟨gb137, 5, none⟩ (.int .i64 ((rd_T83 l0 x7_1).f1))) = w34 at n0_ n1_ ⊢
       have BK137 := n0_
       have HB := n1_
       clear n0_ n1_
       have n0_ := Aside0.mk (blk_drew BK137.out)
       have n1_ := Aside0.mk (below_drew1 HB.out)
       clear BK137
       clear HB
       have BK137 := n0_
       have HB := n1_
       clear n0_ n1_
       refine start_ (n := 20) (S := fun w' => w'.cell? ⟨gb137, 0, none⟩ = some (.string ((rd_T83 l0 x7_1).f0.f0)) ∧ w'.cell? ⟨gb137, 1, none⟩ = some (.int .i64 ((rd_T83 l0 x7_1).f0.f1)) ∧ w'.cell? ⟨gb137, 2, none⟩ = some (.int .i64 ((rd_T83 l0 x7_1).f0.f2)) ∧ w'.cell? ⟨gb137, 3, none⟩ = some (.string ((rd_T83 l0 x7_1).f0.f3)) ∧ w'.cell? ⟨gb137, 4, none⟩ = some (.int .i64 ((rd_T83 l0 x7_1).f0.f4)) ∧ w'.cell? ⟨gb137, 5, none⟩ = some (.int .i64 ((rd_T83 l0 x7_1).f1))) (ds := []) #[F,F,F,F,F,F,F,F,F,F,F,F,F,F,F,F,F,F,F,F] (z_0) rfl rfl ⟨(blk_cell BK137.out 0).trans rfl, (blk_cell BK137.out 1).trans rfl, (blk_cell BK137.out 2).trans rfl, (blk_cell BK137.out 3).trans rfl, (blk_cell BK137.out 4).trans rfl, (blk_cell BK137.out 5).trans rfl⟩ (fun hHeld => ?_); refine with_tabW impl_KeptOk.tab4 impl_KeptOk.bits4 (fun HT_ HW_ => ?_)
       generalize w34.drew = w35 at BK137 HB hHeld ⊢
       refine pure_ (i := 0) (N := some 12) (v := ?_) (a' := ?_) #[T,F,F,F,F,F,F,F,F,F,F,F,F,F,F,F,F,F,F,F] rfl rfl (any_of HT_.out (z_0)) (fun _ _ _ h => h) (Or.inl ⟨z_1, ?_⟩) ?_ ?_
       rotate_left
       ·intro w'
        go_simp
        with_reducible rfl
       rotate_left
       ·simp only [Act.put, List.setIfInBounds_toArray, List.set_cons_zero, List.set_cons_succ, i64_w, i32_w]
        rfl
       refine take_ (i := 1) (N := some 13) (v := ?_) (a' := ?_) #[T,T,F,F,F,F,F,F,F,F,F,F,F,F,F,F,F,F,F,F] rfl rfl (take_ofW HT_.out HW_.out (z_0)) (fun _ _ _ h => h) (Or.inl ⟨z_1, ?_⟩) hHeld ?_ ?_
       rotate_left
       ·rintro w' ⟨s0, s1, s2, s3, s4, s5⟩
        go_simp
        with_reducible rfl
       rotate_left
       ·simp only [Act.put, List.setIfInBounds_toArray, List.set_cons_zero, List.set_cons_succ, i64_w, i32_w]
        rfl
       refine one_ (i := 2) (N := some 14) #[T,T,T,F,F,F,F,F,F,F,F,F,F,F,F,F,F,F,F,F] rfl rfl (one_of HT_.out (z_0)) (z_5) (fun K hK => ?_)
       refine goes_ Try.func21 (z_0) rfl #[.agg #[.string ((rd_T83 l0 x7_1).f0.f0), .int .i64 ((rd_T83 l0 x7_1).f0.f1), .int .i64 ((rd_T83 l0 x7_1).f0.f2), .string ((rd_T83 l0 x7_1).f0.f3), .int .i64 ((rd_T83 l0 x7_1).f0.f4)]] (z_1) rfl rfl (z_14) ?_
       with_reducible refine (impl_NameOk.calls k1 ((rd_T83 l0 x7_1).f0.f0) ((rd_T83 l0 x7_1).f0.f1) ((rd_T83 l0 x7_1).f0.f2) ((rd_T83 l0 x7_1).f0.f3) ((rd_T83 l0 x7_1).f0.f4) false _ A5.out).mono ?_
       rintro e w36 ⟨rfl, hb⟩
       refine ⟨_, rfl, ?_⟩
       have n0_ := Aside0.mk (blk_below (g := gb137) (o := .cells #[.string ((rd_T83 l0 x7_1).f0.f0), .int .i64 ((rd_T83 l0 x7_1).f0.f1), .int .i64 ((rd_T83 l0 x7_1).f0.f2), .string ((rd_T83 l0 x7_1).f0.f3), .int .i64 ((rd_T83 l0 x7_1).f0.f4), .int .i64 ((rd_T83 l0 x7_1).f1)] 83 (0, 0)) (z_29) hb)
       have n1_ := Aside0.mk (below_step (z_28) hb)
       clear BK137
       clear HB
       have BK137 := n0_
       have HB := n1_
       clear n0_ n1_
       (try clear hb)
       (try clear hb2)
       (try clear hk)
       (try clear hi)
       refine hK.out _ _ ⟨(blk_cell BK137.out 0).trans rfl, (blk_cell BK137.out 1).trans rfl, (blk_cell BK137.out 2).trans rfl, (blk_cell BK137.out 3).trans rfl, (blk_cell BK137.out 4).trans rfl, (blk_cell BK137.out 5).trans rfl⟩ (fun hHeld => ?_)
       clear hK K
       refine norm_ (a' := ?_) ?_ ?_
       rotate_left
       ·show Act.put _ (some 14) _ = _
        simp only [Act.put, List.setIfInBounds_toArray, List.set_cons_zero, List.set_cons_succ, i64_w, i32_w]
        rfl
       refine pure_ (i := 3) (N := some 15) (v := ?_) (a' := ?_) #[T,T,T,T,F,F,F,F,F,F,F,F,F,F,F,F,F,F,F,F] rfl rfl (any_of HT_.out (z_0)) (fun _ _ _ h => h) (Or.inl ⟨z_1, ?_⟩) ?_ ?_
       rotate_left
       ·intro w'
        go_simp
        with_reducible rfl
       rotate_left
       ·simp only [Act.put, List.setIfInBounds_toArray, List.set_cons_zero, List.set_cons_succ, i64_w, i32_w]
        rfl
       refine pure_ (i := 4) (N := some 16) (v := ?_) (a' := ?_) #[T,T,T,T,T,F,F,F,F,F,F,F,F,F,F,F,F,F,F,F] rfl rfl (any_of HT_.out (z_0)) (fun _ _ _ h => h) (Or.inl ⟨z_1, ?_⟩) ?_ ?_
       rotate_left
       ·intro w'
        go_simp
        with_reducible rfl
       rotate_left
       ·simp only [Act.put, List.setIfInBounds_toArray, List.set_cons_zero, List.set_cons_succ, i64_w, i32_w]
        rfl
       refine pure_ (i := 5) (N := some 17) (v := undef) (a' := ?_) #[T,T,T,T,T,T,F,F,F,F,F,F,F,F,F,F,F,F,F,F] rfl rfl (any_of HT_.out (z_0)) (fun _ _ _ h => h) (Or.inr ⟨z_1, rfl⟩) ?_ ?_
       rotate_left
       ·simp only [Act.put, List.setIfInBounds_toArray, List.set_cons_zero, List.set_cons_succ, i64_w, i32_w]
        rfl
       refine pure_ (i := 6) (N := some 18) (v := undef) (a' := ?_) #[T,T,T,T,T,T,T,F,F,F,F,F,F,F,F,F,F,F,F,F] rfl rfl (any_of HT_.out (z_0)) (fun _ _ _ h => h) (Or.inr ⟨z_1, rfl⟩) ?_ ?_
       rotate_left
       ·simp only [Act.put, List.setIfInBounds_toArray, List.set_cons_zero, List.set_cons_succ, i64_w, i32_w]
        rfl
       refine pure_ (i := 7) (N := some 19) (v := undef) (a' := ?_) #[T,T,T,T,T,T,T,T,F,F,F,F,F,F,F,F,F,F,F,F] rfl rfl (any_of HT_.out (z_0)) (fun _ _ _ h => h) (Or.inr ⟨z_1, rfl⟩) ?_ ?_
       rotate_left
       ·simp only [Act.put, List.setIfInBounds_toArray, List.set_cons_zero, List.set_cons_succ, i64_w, i32_w]
        rfl
       refine pure_ (i := 8) (N := some 20) (v := undef) (a' := ?_) #[T,T,T,T,T,T,T,T,T,F,F,F,F,F,F,F,F,F,F,F] rfl rfl (any_of HT_.out (z_0)) (fun _ _ _ h => h) (Or.inr ⟨z_1, rfl⟩) ?_ ?_
       rotate_left
       ·simp only [Act.put, List.setIfInBounds_toArray, List.set_cons_zero, List.set_cons_succ, i64_w, i32_w]
        rfl
       refine pure_ (i := 9) (N := some 21) (v := ?_) (a' := ?_) #[T,T,T,T,T,T,T,T,T,T,F,F,F,F,F,F,F,F,F,F] rfl rfl (any_of HT_.out (z_0)) (fun _ _ _ h => h) (Or.inl ⟨z_1, ?_⟩) ?_ ?_
       rotate_left
       ·intro w'
        go_simp
        with_reducible rfl
       rotate_left
       ·simp only [Act.put, List.setIfInBounds_toArray, List.set_cons_zero, List.set_cons_succ, i64_w, i32_w]
        rfl
       refine pure_ (i := 10) (N := some 22) (v := ?_) (a' := ?_) #[T,T,T,T,T,T,T,T,T,T,T,F,F,F,F,F,F,F,F,F] rfl rfl (any_of HT_.out (z_0)) (fun _ _ _ h => h) (Or.inl ⟨z_1, ?_⟩) ?_ ?_
       rotate_left
       ·intro w'
        go_simp
        with_reducible rfl
       rotate_left
       ·simp only [Act.put, List.setIfInBounds_toArray, List.set_cons_zero, List.set_cons_succ, i64_w, i32_w]
        rfl
       refine pure_ (i := 11) (N := some 23) (v := undef) (a' := ?_) #[T,T,T,T,T,T,T,T,T,T,T,T,F,F,F,F,F,F,F,F] rfl rfl (any_of HT_.out (z_0)) (fun _ _ _ h => h) (Or.inr ⟨z_1, rfl⟩) ?_ ?_
       rotate_left
       ·simp only [Act.put, List.setIfInBounds_toArray, List.set_cons_zero, List.set_cons_succ, i64_w, i32_w]
        rfl
       refine pure_ (i := 12) (N := some 24) (v := undef) (a' := ?_) #[T,T,T,T,T,T,T,T,T,T,T,T,T,F,F,F,F,F,F,F] rfl rfl (any_of HT_.out (z_0)) (fun _ _ _ h => h) (Or.inr ⟨z_1, rfl⟩) ?_ ?_
       rotate_left
       ·simp only [Act.put, List.setIfInBounds_toArray, List.set_cons_zero, List.set_cons_succ, i64_w, i32_w]
        rfl
       refine pure_ (i := 13) (N := some 25) (v := undef) (a' := ?_) #[T,T,T,T,T,T,T,T,T,T,T,T,T,T,F,F,F,F,F,F] rfl rfl (any_of HT_.out (z_0)) (fun _ _ _ h => h) (Or.inr ⟨z_1, rfl⟩) ?_ ?_
       rotate_left
       ·simp only [Act.put, List.setIfInBounds_toArray, List.set_cons_zero, List.set_cons_succ, i64_w, i32_w]
        rfl
       refine pure_ (i := 14) (N := some 26) (v := undef) (a' := ?_) #[T,T,T,T,T,T,T,T,T,T,T,T,T,T,T,F,F,F,F,F] rfl rfl (any_of HT_.out (z_0)) (fun _ _ _ h => h) (Or.inr ⟨z_1, rfl⟩) ?_ ?_
       rotate_left
       ·simp only [Act.put, List.setIfInBounds_toArray, List.set_cons_zero, List.set_cons_succ, i64_w, i32_w]
        rfl
       refine pure_ (i := 15) (N := some 27) (v := undef) (a' := ?_) #[T,T,T,T,T,T,T,T,T,T,T,T,T,T,T,T,F,F,F,F] rfl rfl (any_of HT_.out (z_0)) (fun _ _ _ h => h) (Or.inr ⟨z_1, rfl⟩) ?_ ?_
       rotate_left
       ·simp only [Act.put, List.setIfInBounds_toArray, List.set_cons_zero, List.set_cons_succ, i64_w, i32_w]
        rfl
       refine pure_ (i := 16) (N := some 28) (v := undef) (a' := ?_) #[T,T,T,T,T,T,T,T,T,T,T,T,T,T,T,T,T,F,F,F] rfl rfl (any_of HT_.out (z_0)) (fun _ _ _ h => h) (Or.inr ⟨z_1, rfl⟩) ?_ ?_
       rotate_left
       ·simp only [Act.put, List.setIfInBounds_toArray, List.set_cons_zero, List.set_cons_succ, i64_w, i32_w]
        rfl
       refine pure_ (i := 17) (N := some 29) (v := undef) (a' := ?_) #[T,T,T,T,T,T,T,T,T,T,T,T,T,T,T,T,T,T,F,F] rfl rfl (any_of HT_.out (z_0)) (fun _ _ _ h => h) (Or.inr ⟨z_1, rfl⟩) ?_ ?_
       rotate_left
       ·simp only [Act.put, List.setIfInBounds_toArray, List.set_cons_zero, List.set_cons_succ, i64_w, i32_w]
        rfl
       refine pure_ (i := 18) (N := some 30) (v := undef) (a' := ?_) #[T,T,T,T,T,T,T,T,T,T,T,T,T,T,T,T,T,T,T,F] rfl rfl (any_of HT_.out (z_0)) (fun _ _ _ h => h) (Or.inr ⟨z_1, rfl⟩) ?_ ?_
       rotate_left
       ·simp only [Act.put, List.setIfInBounds_toArray, List.set_cons_zero, List.set_cons_succ, i64_w, i32_w]
        rfl
       refine pure_ (i := 19) (N := some 31) (v := ?_) (a' := ?_) #[T,T,T,T,T,T,T,T,T,T,T,T,T,T,T,T,T,T,T,T] rfl rfl (any_of HT_.out (z_0)) (fun _ _ _ h => h) (Or.inl ⟨z_1, ?_⟩) ?_ ?_
       rotate_left
       ·intro w'
        go_simp
        with_reducible rfl
       rotate_left
       ·simp only [Act.put, List.setIfInBounds_toArray, List.set_cons_zero, List.set_cons_succ, i64_w, i32_w]
        rfl
       refine done_ (done_of HT_.out (z_0)) ?_
       try go_wp2
       go_ret
       exact ⟨z_13, z_28⟩
     ·rw [if_neg c4] at H
      exact absurd H (z_12)
    ·rw [if_neg c3] at H
     exact absurd H (z_12)
   ·rw [if_neg c2] at H
    have c2b0 : decide (x7_1 < (l0.length : Int)) = false := decide_eq_false c2
    clear c2
    obtain rfl := Option.some.inj H
    go_wp2
    go_ret
    exact ⟨z_13, z_8⟩

end Go.Proofs.Ytmgnmgobibpjjaa.GFnKeptFind
