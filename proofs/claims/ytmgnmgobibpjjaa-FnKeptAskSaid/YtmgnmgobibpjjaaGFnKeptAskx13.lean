/- What the Go functions that FnKeptAsk reaches come to, walked step by step; there is no condition beyond those each statement names. -/
import Derived.Test.YtmgnmgobibpjjaaGFnKeptAskx0
import Derived.Test.YtmgnmgobibpjjaaGFnKeptAskx2
namespace Go.Proofs.Ytmgnmgobibpjjaa.GFnKeptAsk
open Go.RowKit Go.Proofs.YtmgnmgobibpjjaaVKeptAsk.PrintWords Go.Proofs.YtmgnmgobibpjjaaVKeptAsk.PrintLast Go.Proofs.YtmgnmgobibpjjaaVKeptAsk.PrintMore
attribute [local go_sem] max2_int min2_int max_two min_two max_three min_three max_four min_four   -- for this text's walks alone
set_option linter.unusedVariables false
set_option linter.unusedSimpArgs false

attribute [local go_sem high] eqA83
/-! ### laws_sameKept: function 46 -/
def laws_sameKept.l0 : Nat → List (S83) → List (S83) → Int → Option (Bool)
 | 0, _, _, _ => none
 | k + 1, x0, x1, x5 => if x5 < (x0.length : Int) then (if 0 ≤ x5 then (if x5 < (x1.length : Int) then (if ((!((((rd_T83 x0 x5).f0.f0).toList) == (((rd_T83 x1 x5).f0.f0).toList)) || (!(((rd_T83 x0 x5).f0.f1) == ((rd_T83 x1 x5).f0.f1)) || (!(((rd_T83 x0 x5).f0.f2) == ((rd_T83 x1 x5).f0.f2)) || (!((((rd_T83 x0 x5).f0.f3).toList) == (((rd_T83 x1 x5).f0.f3).toList)) || (!(((rd_T83 x0 x5).f0.f4) == ((rd_T83 x1 x5).f0.f4))))))) || (!(((rd_T83 x0 x5).f1) == ((rd_T83 x1 x5).f1)))) = true then (some false) else (laws_sameKept.l0 k x0 x1 (wrap64 (x5 + 1)))) else (none)) else (none)) else (some true)
def laws_sameKept.f (k : Nat) (l0 : List (S83)) (l1 : List (S83)) : Option (Bool) := if (l0.length : Int) = (l1.length : Int) then (laws_sameKept.l0 k l0 l1 0) else (some false)
theorem laws_sameKept.mono_l : ∀ k, (∀ y0 y1 y2, LeO (laws_sameKept.l0 k y0 y1 y2) (laws_sameKept.l0 (k + 1) y0 y1 y2))
 | 0 => fun _ _ _ r h => by simp [laws_sameKept.l0] at h
 | k + 1 => by
  have ih0 := laws_sameKept.mono_l k
  ·intro y0 y1 y2
   unfold laws_sameKept.l0
   repeat' first
   | (with_reducible exact ih0 _ _ _)
   | (with_reducible exact LeO.refl _)
   | (with_reducible exact LeO.none _)
   | (with_reducible refine LeO.ite ?_ ?_)
   | (with_reducible refine LeO.bind ?_ (fun _ => ?_))
   | exact ih0 _ _ _
   | exact LeO.none _
   | refine LeO.ite ?_ ?_
   | refine LeO.bind ?_ (fun _ => ?_)
theorem laws_sameKept.mono : ∀ a0 a1 k, LeO (laws_sameKept.f k a0 a1) (laws_sameKept.f (k + 1) a0 a1) := by
 intro a0 a1 k
 have ih0 := laws_sameKept.mono_l k
 unfold laws_sameKept.f
 repeat' first
   | (with_reducible exact ih0 _ _ _)
   | (with_reducible exact LeO.refl _)
   | (with_reducible exact LeO.none _)
   | (with_reducible refine LeO.ite ?_ ?_)
   | (with_reducible refine LeO.bind ?_ (fun _ => ?_))
   | exact ih0 _ _ _
   | exact LeO.none _
   | refine LeO.ite ?_ ?_
   | refine LeO.bind ?_ (fun _ => ?_)
set_option maxHeartbeats 8000000 in
set_option maxRecDepth 100000 in
theorem laws_sameKept.calls (k : Nat) (A0 : Option Addr) (c0 : Nat) (l0 : List (S83)) (A1 : Option Addr) (c1 : Nat) (l1 : List (S83)) (r : Bool) (w : World) (hr0 : Kd.C k83 w A0 l0.length l0) (hc0 : l0.length ≤ c0) (hr1 : Kd.C k83 w A1 l1.length l1) (hc1 : l1.length ≤ c1) (h : laws_sameKept.f k l0 l1 = some r) :
  Calls Try.prog 46 #[.slice A0 l0.length c0, .slice A1 l1.length c1] w fun e w' => e = .returned (.bool r) ∧ Drawn0 w w' := by
 have hu83 := Try.underlying83
 have HR0 := Aside0.mk hr0
 have HC0 := Aside0.mk hc0
 clear hr0 hc0
 have HR1 := Aside0.mk hr1
 have HC1 := Aside0.mk hc1
 clear hr1 hc1
 have H : (if (l0.length : Int) = (l1.length : Int) then (laws_sameKept.l0 k l0 l1 0) else (some false)) = some r := h
 clear h
 by_cases c3 : (l0.length : Int) = (l1.length : Int)
 ·rw [if_pos c3] at H
  have c3b0 : ((l0.length : Int) == (l1.length : Int)) = true := beq_iff_eq.mpr c3
  have c3b1 : ((l0.length : Int) != (l1.length : Int)) = false := bne_eq_false_iff_eq.mpr c3
  have c3b2 : (l0.length == l1.length) = true := by first | simpa using c3 | (simp at c3 ⊢; omega)
  clear c3
  have H' := Aside0.mk H
  clear H
  go_enter Try.func46, Try.ntmps46
  go_wp2
  repeat (go_quiet (fail); try go_wp2)
  go_loopg [5] k (fun kq v5 w' => ∃ (x5_1 : Int), v5 = .int .i64 x5_1 ∧ Aside0 (laws_sameKept.l0 kq l0 l1 x5_1 = some r) ∧ Aside0 (kq ≤ k) ∧ Drawn0 w w')
  case atStart => exact ⟨(0), (z_3), H', ⟨Nat.le_refl _⟩, z_4⟩
  case round =>
   clear H'
   try clear c1
   try clear p2
   try clear c3
   try clear c3b0
   try clear c3b1
   try clear c3b2
   obtain ⟨x5_1, rfl, HA, HK1, ⟨m1, rfl⟩⟩ := hrel
   cases gk with
   | zero => exact absurd HA.out (by simp [laws_sameKept.l0])
   | succ k1 =>
    have H := HA.out
    clear HA
    simp only [laws_sameKept.l0] at H
    by_cases c4 : x5_1 < (l0.length : Int)
    ·rw [if_pos c4] at H
     have c4b0 : decide (x5_1 < (l0.length : Int)) = true := decide_eq_true c4
     clear c4
     by_cases c5 : 0 ≤ x5_1
     ·rw [if_pos c5] at H
      have c5b0 : decide (0 ≤ x5_1) = true := decide_eq_true c5
      clear c5
      by_cases c6 : x5_1 < (l1.length : Int)
      ·rw [if_pos c6] at H
       have c6b0 : decide (x5_1 < (l1.length : Int)) = true := decide_eq_true c6
       clear c6
       by_cases c7 : ((!((((rd_T83 l0 x5_1).f0.f0).toList) == (((rd_T83 l1 x5_1).f0.f0).toList)) || (!(((rd_T83 l0 x5_1).f0.f1) == ((rd_T83 l1 x5_1).f0.f1)) || (!(((rd_T83 l0 x5_1).f0.f2) == ((rd_T83 l1 x5_1).f0.f2)) || (!((((rd_T83 l0 x5_1).f0.f3).toList) == (((rd_T83 l1 x5_1).f0.f3).toList)) || (!(((rd_T83 l0 x5_1).f0.f4) == ((rd_T83 l1 x5_1).f0.f4))))))) || (!(((rd_T83 l0 x5_1).f1) == ((rd_T83 l1 x5_1).f1)))) = true
       ·rw [if_pos c7] at H
        have c7b0 : ((!((((rd_T83 l0 x5_1).f0.f0).toList) == (((rd_T83 l1 x5_1).f0.f0).toList)) || (!(((rd_T83 l0 x5_1).f0.f1) == ((rd_T83 l1 x5_1).f0.f1)) || (!(((rd_T83 l0 x5_1).f0.f2) == ((rd_T83 l1 x5_1).f0.f2)) || (!((((rd_T83 l0 x5_1).f0.f3).toList) == (((rd_T83 l1 x5_1).f0.f3).toList)) || (!(((rd_T83 l0 x5_1).f0.f4) == ((rd_T83 l1 x5_1).f0.f4))))))) || (!(((rd_T83 l0 x5_1).f1) == ((rd_T83 l1 x5_1).f1)))) = true := c7
        clear c7
        obtain rfl := Option.some.inj H
        have p290 : 0 ≤ (x5_1 : Int) := of_decide_eq_true (z_7)
        have q290 : x5_1 < (l0.length : Int) := of_decide_eq_true (z_7)
        obtain ⟨ad290, e290, hx290_0, hx290_1, hx290_2, hx290_3, hx290_4, hx290_5⟩ := at_T83 HR0.out x5_1 p290 q290
        cases e290
        replace p290 := eq_true p290
        replace q290 := eq_true q290
        have p291 : 0 ≤ (x5_1 : Int) := of_decide_eq_true (z_7)
        have q291 : x5_1 < (l1.length : Int) := of_decide_eq_true (z_7)
        obtain ⟨ad291, e291, hx291_0, hx291_1, hx291_2, hx291_3, hx291_4, hx291_5⟩ := at_T83 HR1.out x5_1 p291 q291
        cases e291
        replace p291 := eq_true p291
        replace q291 := eq_true q291
        go_wp2
        repeat (go_quiet (fail); try go_wp2)
        go_ret
        exact ⟨z_3, z_4⟩
       ·rw [if_neg c7] at H
        have c7b0 : ((!((((rd_T83 l0 x5_1).f0.f0).toList) == (((rd_T83 l1 x5_1).f0.f0).toList)) || (!(((rd_T83 l0 x5_1).f0.f1) == ((rd_T83 l1 x5_1).f0.f1)) || (!(((rd_T83 l0 x5_1).f0.f2) == ((rd_T83 l1 x5_1).f0.f2)) || (!((((rd_T83 l0 x5_1).f0.f3).toList) == (((rd_T83 l1 x5_1).f0.f3).toList)) || (!(((rd_T83 l0 x5_1).f0.f4) == ((rd_T83 l1 x5_1).f0.f4))))))) || (!(((rd_T83 l0 x5_1).f1) == ((rd_T83 l1 x5_1).f1)))) = false := by simpa using c7
        clear c7
        have H' := Aside0.mk H
        clear H
        have p290 : 0 ≤ (x5_1 : Int) := of_decide_eq_true (z_7)
        have q290 : x5_1 < (l0.length : Int) := of_decide_eq_true (z_7)
        obtain ⟨ad290, e290, hx290_0, hx290_1, hx290_2, hx290_3, hx290_4, hx290_5⟩ := at_T83 HR0.out x5_1 p290 q290
        cases e290
        replace p290 := eq_true p290
        replace q290 := eq_true q290
        have p291 : 0 ≤ (x5_1 : Int) := of_decide_eq_true (z_7)
        have q291 : x5_1 < (l1.length : Int) := of_decide_eq_true (z_7)
        obtain ⟨ad291, e291, hx291_0, hx291_1, hx291_2, hx291_3, hx291_4, hx291_5⟩ := at_T83 HR1.out x5_1 p291 q291
        cases e291
        replace p291 := eq_true p291
        replace q291 := eq_true q291
        go_wp2
        repeat (go_quiet (fail); try go_wp2)
        go_roundg k1
        case measure => have := HK1.out; omega
        case rel => exact ⟨(wrap64 (x5_1 + 1)), (z_3), H', ⟨z_10⟩, z_4⟩
      ·rw [if_neg c6] at H
       exact absurd H (z_12)
     ·rw [if_neg c5] at H
      exact absurd H (z_12)
    ·rw [if_neg c4] at H
     have c4b0 : decide (x5_1 < (l0.length : Int)) = false := decide_eq_false c4
     clear c4
     obtain rfl := Option.some.inj H
     go_wp2
     repeat (go_quiet (fail); try go_wp2)
     go_ret
     exact ⟨z_3, z_4⟩
 ·rw [if_neg c3] at H
  have c3b0 : ((l0.length : Int) == (l1.length : Int)) = false := beq_eq_false_iff_ne.mpr c3
  have c3b1 : ((l0.length : Int) != (l1.length : Int)) = true := bne_iff_ne.mpr c3
  have c3b2 : (l0.length == l1.length) = false := by first | simpa using c3 | (simp at c3 ⊢; omega)
  obtain rfl := Option.some.inj H
  go_enter Try.func46, Try.ntmps46
  go_wp2
  repeat (go_quiet (fail); try go_wp2)
  go_ret
  exact ⟨z_3, z_4⟩

/-- A state of type 96 at block g of W; what its slices lead to came in by w0. -/
def IsS96 (w0 W : World) (g : Nat) (f0 : List Int) (f1 : Int) : Prop := ∃ A0 c0, W.heap[g]? = some (.cells #[.slice A0 f0.length c0, .int .i64 f1] 96 (0, 0)) ∧ w0.heap.size ≤ g ∧ Kd.C (Kd.int .u8) w0 A0 f0.length f0
theorem IsS96.grown {w0 W : World} {g : Nat} {f0 : List Int} {f1 : Int} {W1 : World} {row : Option Nat} (h : IsS96 w0 W g f0 f1) (hw : W.grownBy W1 row) (hne : some g ≠ row) : IsS96 w0 W1 g f0 f1 := by
 obtain ⟨A0, c0, hb, hg, hr0⟩ := h
 exact ⟨A0, c0, blk_grown hb hw hne, hg, hr0⟩
theorem IsS96.own_neN {w0 W : World} {g : Nat} {f0 : List Int} {f1 : Int} {α : Type} {d : Kd α} {e : Nat} {base : Nat} {ok : Nat → Prop} {v : Value} {xs : List α} (h : IsS96 w0 W g f0 f1) (ho : Kd.N d e W base ok v xs) (ht : e ≠ 96) : some g ≠ v.ownBlock := by
 obtain ⟨A0, c0, hb, hg, hr0⟩ := h
 exact Kd.N_ne ho hb ht
theorem IsS96.fresh {w0 W : World} {g : Nat} {f0 : List Int} {f1 : Int} (h : IsS96 w0 W g f0 f1) : ∀ k, W.heap.size ≤ k → k ≠ g := by
 obtain ⟨A0, c0, hb, hg, hr0⟩ := h
 exact Kd.freshB hb
theorem IsS96.kept {w0 W : World} {g : Nat} {f0 : List Int} {f1 : Int} {W1 : World} {S : Nat → Prop} (h : IsS96 w0 W g f0 f1) (hk : Kept W W1 S) (hne : ¬ S g) : IsS96 w0 W1 g f0 f1 := by
 obtain ⟨A0, c0, hb, hg, hr0⟩ := h
 exact ⟨A0, c0, blk_kept hb hk hne, hg, hr0⟩
theorem IsS96.below {w0 W : World} {g : Nat} {f0 : List Int} {f1 : Int} {W1 : World} (h : IsS96 w0 W g f0 f1) (hw : Below W.heap.size W W1) : IsS96 w0 W1 g f0 f1 := h.grown (grown_of_below hw none) (z_12)
theorem IsS96.alloc {w0 W : World} {g : Nat} {f0 : List Int} {f1 : Int} (h : IsS96 w0 W g f0 f1) (o : Obj) : IsS96 w0 (W.alloc o) g f0 f1 := h.below (below_alloc (Below.refl _ _) o)
theorem IsS96.drewN {w0 W : World} {g : Nat} {f0 : List Int} {f1 : Int} (h : IsS96 w0 W g f0 f1) (m : Nat) : IsS96 w0 (W.drewN m) g f0 f1 := h
theorem IsS96.drew {w0 W : World} {g : Nat} {f0 : List Int} {f1 : Int} (h : IsS96 w0 W g f0 f1) : IsS96 w0 W.drew g f0 f1 := h
theorem IsS96.at_ {w0 W : World} {g : Nat} {f0 : List Int} {f1 : Int} {w' : World} {m : Nat} (hq : W.drewN m = w') (h : IsS96 w0 W g f0 f1) : IsS96 w0 w' g f0 f1 := by subst hq; exact IsS96.drewN h m
theorem IsS96.apart {w0 W : World} {g : Nat} {f0 : List Int} {f1 : Int} {α : Type} {d : Kd α} {e : Nat} {base : Nat} {ok : Nat → Prop} {v : Value} {xs : List α} (h : IsS96 w0 W g f0 f1) (ho : d.R e W base ok v xs) (ht : ∀ q, q ∈ e :: d.E → q ≠ 96) : d.R e W base (fun k => ok k ∧ k ≠ g) v xs := by
 obtain ⟨A0, c0, hb, hg, hr0⟩ := h
 exact Kd.R_types ho hb ht
theorem IsS96.own_ne {w0 W : World} {g : Nat} {f0 : List Int} {f1 : Int} {α : Type} {d : Kd α} {e : Nat} {base : Nat} {ok : Nat → Prop} {v : Value} {xs : List α} (h : IsS96 w0 W g f0 f1) (ho : d.R e W base ok v xs) (ht : e ≠ 96) : some g ≠ v.ownBlock := by
 obtain ⟨A0, c0, hb, hg, hr0⟩ := h
 exact Kd.R_ne ho hb ht
theorem IsS96.apartQ {w0 W : World} {g : Nat} {f0 : List Int} {f1 : Int} {α : Type} {d : Kd α} {e : Nat} {base : Nat} {ok : Nat → Prop} {v : Value} {xs : List α} (h : IsS96 w0 W g f0 f1) (ho : d.Q e W base ok v xs) (ht : ∀ q, q ∈ e :: d.E → q ≠ 96) : d.Q e W base (fun k => ok k ∧ k ≠ g) v xs := by
 obtain ⟨A0, c0, hb, hg, hr0⟩ := h
 exact Kd.Q_types ho hb ht
theorem IsS96.own_neQ {w0 W : World} {g : Nat} {f0 : List Int} {f1 : Int} {α : Type} {d : Kd α} {e : Nat} {base : Nat} {ok : Nat → Prop} {v : Value} {xs : List α} (h : IsS96 w0 W g f0 f1) (ho : d.Q e W base ok v xs) (ht : e ≠ 96) : some g ≠ v.ownBlock := by
 obtain ⟨A0, c0, hb, hg, hr0⟩ := h
 exact Kd.Q_ne ho hb ht
theorem IsS96.apartS {w0 W : World} {g : Nat} {f0 : List Int} {f1 : Int} {α : Type} {d : Kd α} {e : Nat} {base : Nat} {ok : Nat → Prop} {v : Value} {xs : List α} (h : IsS96 w0 W g f0 f1) (ho : d.S e W base ok v xs) (ht : ∀ q, q ∈ e :: d.E → q ≠ 96) : d.S e W base (fun k => ok k ∧ k ≠ g) v xs := by
 obtain ⟨A0, c0, hb, hg, hr0⟩ := h
 exact Kd.S_types ho hb ht
theorem IsS96.own_neS {w0 W : World} {g : Nat} {f0 : List Int} {f1 : Int} {α : Type} {d : Kd α} {e : Nat} {base : Nat} {ok : Nat → Prop} {v : Value} {xs : List α} (h : IsS96 w0 W g f0 f1) (ho : d.S e W base ok v xs) (ht : e ≠ 96) : some g ≠ v.ownBlock := by
 obtain ⟨A0, c0, hb, hg, hr0⟩ := h
 exact Kd.S_ne ho hb ht
theorem IsS96.lt {w0 W : World} {g : Nat} {f0 : List Int} {f1 : Int} (h : IsS96 w0 W g f0 f1) : g < W.heap.size := by
 obtain ⟨A0, c0, hb, hg, hr0⟩ := h
 exact blk_lt hb
theorem IsS96.ge {w0 W : World} {g : Nat} {f0 : List Int} {f1 : Int} (h : IsS96 w0 W g f0 f1) : w0.heap.size ≤ g := by
 obtain ⟨A0, c0, hb, hg, hr0⟩ := h
 exact hg
theorem IsS96.ne_blk {w0 W : World} {g : Nat} {f0 : List Int} {f1 : Int} {a : Nat} {cs : Array Value} {t : TypeId} {fr : Nat × Nat} (h : IsS96 w0 W g f0 f1) (hb2 : W.heap[a]? = some (.cells cs t fr)) (ht : t ≠ 96) : g ≠ a := by
 obtain ⟨A0, c0, hb, hg, hr0⟩ := h
 rintro rfl
 rw [hb] at hb2
 injection hb2 with hb2
 injection hb2 with _ ht2
 exact ht ht2.symm
theorem IsS96.far {w0 W : World} {g : Nat} {f0 : List Int} {f1 : Int} {p : Addr} (h : IsS96 w0 W g f0 f1) (hne : g ≠ p.block) (u : Value) : IsS96 w0 (W.setCell p u) g f0 f1 := by
 obtain ⟨A0, c0, hb, hg, hr0⟩ := h
 exact ⟨A0, c0, blk_far hb hne u, hg, hr0⟩
theorem cellS96_0 {W : World} {g : Nat} {A0 : Option Addr} {c0 : Nat} {f0 : List Int} {f1 : Int} (h : W.heap[g]? = some (.cells #[.slice A0 f0.length c0, .int .i64 f1] 96 (0, 0))) : W.cell? ⟨g, 0, none⟩ = some (.slice A0 f0.length c0) := (blk_cell h 0).trans rfl
theorem cellS96_1 {W : World} {g : Nat} {A0 : Option Addr} {c0 : Nat} {f0 : List Int} {f1 : Int} (h : W.heap[g]? = some (.cells #[.slice A0 f0.length c0, .int .i64 f1] 96 (0, 0))) : W.cell? ⟨g, 1, none⟩ = some (.int .i64 f1) := (blk_cell h 1).trans rfl
theorem IsS96.set_1 {w0 W : World} {g : Nat} {f0 : List Int} {f1 : Int} (h : IsS96 w0 W g f0 f1) (x : Int) : IsS96 w0 (W.setCell ⟨g, 1, none⟩ (.int .i64 x)) g f0 x := by
 obtain ⟨A0, c0, hb, hg, hr0⟩ := h
 exact ⟨A0, c0, by simpa using blk_set hb 1 (.int .i64 x), hg, hr0⟩
theorem IsS96.new (w0 W : World) (A0 : Option Addr) (c0 : Nat) (f0 : List Int) (f1 : Int) (hB : Below w0.heap.size w0 W) (hr0 : Kd.C (Kd.int .u8) w0 A0 f0.length f0) : IsS96 w0 (W.alloc (.cells #[.slice A0 f0.length c0, .int .i64 f1] 96)) W.heap.size f0 f1 := ⟨A0, c0, by simpa using heap_alloc_new W _, hB.size, hr0⟩

/-! ### spec_l20Open: function 60 -/
def spec_l20Open.f (l0 : List Int) : Option (List Int × Int) := if (l0.length : Int) > 2000 then (if 2000 ≤ (l0.length : Int) then (some (l0.take 2000, 0)) else (none)) else (some (l0, 0))
set_option maxHeartbeats 8000000 in
set_option maxRecDepth 100000 in
theorem spec_l20Open.calls (A0 : Option Addr) (c0 : Nat) (l0 : List Int) (r1 : List Int) (r2 : Int) (w0 w : World) (hB : Below w0.heap.size w0 w) (hr0 : Kd.C (Kd.int .u8) w0 A0 l0.length l0) (hc0 : l0.length ≤ c0) (h : spec_l20Open.f l0 = some (r1, r2)) :
  Calls Try.prog 60 #[.slice A0 l0.length c0] w fun e w' => ∃ g_ : Nat, e = .returned (.pointer (some ⟨g_, 0, none⟩)) ∧ IsS96 w0 w' g_ r1 r2 ∧ Below w0.heap.size w0 w' ∧ Below w.heap.size w w' := by
 have hu96 := Try.underlying96
 have HR0 := Aside0.mk hr0
 have HC0 := Aside0.mk hc0
 clear hr0 hc0
 have HBW := Aside0.mk (Below.refl w.heap.size w)
 have HW0 := Aside0.mk hB.size
 have HB := Aside0.mk hB
 clear hB
 have H : (if (l0.length : Int) > 2000 then (if 2000 ≤ (l0.length : Int) then (some (l0.take 2000, 0)) else (none)) else (some (l0, 0))) = some (r1, r2) := h
 clear h
 by_cases c2 : (l0.length : Int) > 2000
 ·rw [if_pos c2] at H
  have c2b0 : decide (2000 < (l0.length : Int)) = true := decide_eq_true c2
  have c2b1 : decide (2000 < l0.length) = true := decide_eq_true (z_6)
  clear c2
  by_cases c3 : 2000 ≤ (l0.length : Int)
  ·rw [if_pos c3] at H
   have c3b0 := eq_true c3
   have c3b1 : decide (2000 ≤ (l0.length : Int)) = true := decide_eq_true c3
   clear c3
   simp only [Option.some.injEq, Prod.mk.injEq] at H
   obtain ⟨rfl, rfl⟩ := H
   obtain ⟨i04, hi04, _, hsz4, _⟩ := info_parts info5
   obtain ⟨hcut4, hA4, hC4⟩ := print_take_of (P := Try.prog) (Value.int .u8) 0 29 5 .i64 Try.underlying29 hi04 hsz4 A0 c0 l0 2000 (z_6) (of_decide_eq_true (z_7)) HC0.out
   have HR292 := Aside0.mk (Kd.C_of_reads (h1 := fun _ => rfl) (hA4 _ (Kd.reads_of_C HR0.out)))
   have HC292 := Aside0.mk hC4
   clear hA4 hC4 hi04 hsz4
   go_enter Try.func60, Try.ntmps60
   go_wp2_with (first | ((with_reducible refine gate_dst (N := 10) rfl ?_); refine box_event ?hg (N := 10) ?hd (cs := #[.slice A0 (l0.take 2000).length c0, .int .i64 0]) (t := 96) ?hr ?_; (case hd => rfl); (case hg => rfl); (case hr => exact z_9); intro gb293 hg w5 hbox hb; have n0_ := Aside0.mk (below_step HBW.out hb); have n1_ := Aside0.mk (below_step (z_8) hb); have n2_ := Aside0.mk (hbox); have n3_ := Aside0.mk ((z_96 : w.heap.size ≤ gb293)); have n4_ := Aside0.mk ((Nat.le_trans HW0.out (z_96 : w.heap.size ≤ gb293) : w0.heap.size ≤ gb293)); clear HBW; clear HB; have HBW := n0_; have HB := n1_; have BK293 := n2_; have GW293 := n3_; have GE293 := n4_; clear n0_ n1_ n2_ n3_ n4_; clear hb hbox hg))
   go_ret
   exact ⟨_, rfl, (show IsS96 w0 _ gb293 (l0.take 2000) 0 from ⟨_, _, by (with_reducible repeat (first | refine blk_drewN ?_ _ | refine blk_drew ?_ | refine blk_alloc ?_ _)); exact BK293.out, GE293.out, HR292.out⟩), by repeat (first | (with_reducible first | exact HB.out | apply below_alloc | apply pw_below_drewN | apply below_drew1 | refine below_set ?_ GE293.out) | exact HB.out), by repeat (first | (with_reducible first | exact HBW.out | apply below_alloc | apply pw_below_drewN | apply below_drew1 | refine below_set ?_ GW293.out) | exact HBW.out)⟩
  ·rw [if_neg c3] at H
   exact absurd H (z_12)
 ·rw [if_neg c2] at H
  have c2b0 : decide (2000 < (l0.length : Int)) = false := decide_eq_false c2
  have c2b1 : decide (2000 < l0.length) = false := decide_eq_false (z_6)
  clear c2
  simp only [Option.some.injEq, Prod.mk.injEq] at H
  obtain ⟨rfl, rfl⟩ := H
  go_enter Try.func60, Try.ntmps60
  go_wp2_with (first | ((with_reducible refine gate_dst (N := 10) rfl ?_); refine box_event ?hg (N := 10) ?hd (cs := #[.slice A0 l0.length c0, .int .i64 0]) (t := 96) ?hr ?_; (case hd => rfl); (case hg => rfl); (case hr => exact z_9); intro gb294 hg w6 hbox hb; have n0_ := Aside0.mk (below_step HBW.out hb); have n1_ := Aside0.mk (below_step (z_8) hb); have n2_ := Aside0.mk (hbox); have n3_ := Aside0.mk ((z_96 : w.heap.size ≤ gb294)); have n4_ := Aside0.mk ((Nat.le_trans HW0.out (z_96 : w.heap.size ≤ gb294) : w0.heap.size ≤ gb294)); clear HBW; clear HB; have HBW := n0_; have HB := n1_; have BK294 := n2_; have GW294 := n3_; have GE294 := n4_; clear n0_ n1_ n2_ n3_ n4_; clear hb hbox hg))
  go_ret
  exact ⟨_, rfl, (show IsS96 w0 _ gb294 l0 0 from ⟨_, _, by (with_reducible repeat (first | refine blk_drewN ?_ _ | refine blk_drew ?_ | refine blk_alloc ?_ _)); exact BK294.out, GE294.out, HR0.out⟩), by repeat (first | (with_reducible first | exact HB.out | apply below_alloc | apply pw_below_drewN | apply below_drew1 | refine below_set ?_ GE294.out) | exact HB.out), by repeat (first | (with_reducible first | exact HBW.out | apply below_alloc | apply pw_below_drewN | apply below_drew1 | refine below_set ?_ GW294.out) | exact HBW.out)⟩

/-! ### spec_l20Rd_pick: function 69 -/
def spec_l20Rd_pick.j0 : Nat → Int → Bool → List Int → Int → Option (Int × Int)
 | 0, _, _, _, _ => none
 | k + 1, x1, x24, x1000, x1001 => if x24 = true then (some (0, x1001)) else (if (wrap64 (x1001 - 1)) < (x1000.length : Int) then (if 0 ≤ (wrap64 (x1001 - 1)) then (if x1 = 0 then (none) else (some (Int.tmod (wrap64 (rd x1000 (wrap64 (x1001 - 1)))) x1, x1001))) else (none)) else (if (x1000.length : Int) = 0 then (none) else (if 0 ≤ (Int.tmod (wrap64 (x1001 - 1)) (x1000.length : Int)) then (if (Int.tmod (wrap64 (x1001 - 1)) (x1000.length : Int)) < (x1000.length : Int) then (if 0 ≤ (Int.tmod (wrap64 ((wrap64 ((wrap64 (x1001 - 1)) * 7)) + 3)) (x1000.length : Int)) then (if (Int.tmod (wrap64 ((wrap64 ((wrap64 (x1001 - 1)) * 7)) + 3)) (x1000.length : Int)) < (x1000.length : Int) then (if x1 = 0 then (none) else (some (Int.tmod (Go.bits .xor .i64 (wrap64 ((wrap64 ((wrap64 ((wrap64 ((wrap64 (rd x1000 (Int.tmod (wrap64 (x1001 - 1)) (x1000.length : Int)))) * 131)) + (wrap64 ((wrap64 (rd x1000 (Int.tmod (wrap64 ((wrap64 ((wrap64 (x1001 - 1)) * 7)) + 3)) (x1000.length : Int)))) * 1117)))) + (wrap64 ((wrap64 (x1001 - 1)) * 29)))) + (wrap64 ((wrap64 (Int.tdiv (wrap64 (x1001 - 1)) (x1000.length : Int))) * 53)))) (wrap64 (Int.tdiv (wrap64 ((wrap64 ((wrap64 ((wrap64 ((wrap64 (rd x1000 (Int.tmod (wrap64 (x1001 - 1)) (x1000.length : Int)))) * 131)) + (wrap64 ((wrap64 (rd x1000 (Int.tmod (wrap64 ((wrap64 ((wrap64 (x1001 - 1)) * 7)) + 3)) (x1000.length : Int)))) * 1117)))) + (wrap64 ((wrap64 (x1001 - 1)) * 29)))) + (wrap64 ((wrap64 (Int.tdiv (wrap64 (x1001 - 1)) (x1000.length : Int))) * 53)))) 64))) x1, x1001))) else (none)) else (none)) else (none)) else (none))))
def spec_l20Rd_pick.f (k : Nat) (s0_0 : List Int) (s0_1 : Int) (a1 : Int) : Option (Int × Int) := if a1 < 1 then (spec_l20Rd_pick.j0 k a1 true s0_0 (wrap64 (s0_1 + 1))) else (spec_l20Rd_pick.j0 k a1 ((s0_0.length : Int) == 0) s0_0 (wrap64 (s0_1 + 1)))
theorem spec_l20Rd_pick.mono_l : ∀ k, (∀ y0 y1 y2 y3, LeO (spec_l20Rd_pick.j0 k y0 y1 y2 y3) (spec_l20Rd_pick.j0 (k + 1) y0 y1 y2 y3))
 | 0 => fun _ _ _ _ r h => by simp [spec_l20Rd_pick.j0] at h
 | k + 1 => by
  have ih0 := spec_l20Rd_pick.mono_l k
  ·intro y0 y1 y2 y3
   unfold spec_l20Rd_pick.j0
   repeat' first
   | (with_reducible exact ih0 _ _ _ _)
   | (with_reducible exact LeO.refl _)
   | (with_reducible exact LeO.none _)
   | (with_reducible refine LeO.ite ?_ ?_)
   | (with_reducible refine LeO.bind ?_ (fun _ => ?_))
   | exact ih0 _ _ _ _
   | exact LeO.none _
   | refine LeO.ite ?_ ?_
   | refine LeO.bind ?_ (fun _ => ?_)
theorem spec_l20Rd_pick.mono : ∀ a0 a1 a2 k, LeO (spec_l20Rd_pick.f k a0 a1 a2) (spec_l20Rd_pick.f (k + 1) a0 a1 a2) := by
 intro a0 a1 a2 k
 have ih0 := spec_l20Rd_pick.mono_l k
 unfold spec_l20Rd_pick.f
 repeat' first
   | (with_reducible exact ih0 _ _ _ _)
   | (with_reducible exact LeO.refl _)
   | (with_reducible exact LeO.none _)
   | (with_reducible refine LeO.ite ?_ ?_)
   | (with_reducible refine LeO.bind ?_ (fun _ => ?_))
   | exact ih0 _ _ _ _
   | exact LeO.none _
   | refine LeO.ite ?_ ?_
   | refine LeO.bind ?_ (fun _ => ?_)
set_option maxHeartbeats 8000000 in
set_option maxRecDepth 100000 in
theorem spec_l20Rd_pick.calls (k : Nat) (g : Nat) (s0_0 : List Int) (s0_1 : Int) (a1 : Int) (r1 : Int) (r2 : Int) (w0 w : World) (hI : IsS96 w0 w g s0_0 s0_1) (hB : Below w0.heap.size w0 w) (h : spec_l20Rd_pick.f k s0_0 s0_1 a1 = some (r1, r2)) :
  Calls Try.prog 69 #[.pointer (some ⟨g, 0, none⟩), .int .i64 a1] w fun e w' => e = .returned (.int .i64 r1) ∧ IsS96 w0 w' g s0_0 r2 ∧ Below w0.heap.size w0 w' ∧ KeepBut w w' g none := by
 have HI0 := Aside0.mk hI
 have HK := Aside0.mk (KeepBut.refl w g none)
 have HL := Aside0.mk hB.size
 clear hI
 have HW0 := Aside0.mk hB.size
 have HB := Aside0.mk hB
 clear hB
 have H : (if a1 < 1 then (spec_l20Rd_pick.j0 k a1 true s0_0 (wrap64 (s0_1 + 1))) else (spec_l20Rd_pick.j0 k a1 ((s0_0.length : Int) == 0) s0_0 (wrap64 (s0_1 + 1)))) = some (r1, r2) := h
 clear h
 have HC3 := Aside0.mk H
 clear H
 obtain ⟨ASz4_0, cSz4_0, HGz4, hgz4, HSz4_0⟩ := HI0.out
 have hcz4_0 := cellS96_0 HGz4
 have hcz4_1 := cellS96_1 HGz4
 have hfz4_1 := blk_frozen HGz4 1
 clear HGz4 hgz4
 go_enter Try.func69, Try.ntmps69
 go_upto_region 2 with (fail)
 repeat (go_quiet (fail); go_upto_region 2 with (fail))
 go_cut [24] (fun v24 wc => ∃ (kq : Nat) (x24_2 : Bool), v24 = .bool x24_2 ∧ Aside0 (spec_l20Rd_pick.j0 kq a1 x24_2 s0_0 (wrap64 (s0_1 + 1)) = some (r1, r2)) ∧ Aside0 (kq ≤ k) ∧ Aside0 (IsS96 w0 wc g s0_0 (wrap64 (s0_1 + 1))) ∧ Aside0 (KeepBut w wc g none) ∧ Aside0 (Below w0.heap.size w0 wc))
 case first =>
  have H := HC3.out
  clear HC3
  by_cases c5 : a1 < 1
  ·rw [if_pos c5] at H
   have c5b0 : decide (a1 < 1) = true := decide_eq_true c5
   clear c5
   (first | rw [c5b0] | (simp only [i64_w, i32_w]; rw [c5b0]) | skip)
   have H' := Aside0.mk H
   clear H
   go_wp2
   repeat (go_quiet (fail); try go_wp2)
   go_meet
   case rel => exact ⟨_, (true), (z_3), H', ⟨z_23⟩, ⟨z_97⟩, ⟨z_98⟩, ⟨z_99⟩⟩
  ·rw [if_neg c5] at H
   have c5b0 : decide (a1 < 1) = false := decide_eq_false c5
   clear c5
   (first | rw [c5b0] | (simp only [i64_w, i32_w]; rw [c5b0]) | skip)
   have H' := Aside0.mk H
   clear H
   obtain ⟨ASz6_0, cSz6_0, HGz6, hgz6, HSz6_0⟩ := HI0.out
   have hcz6_0 := cellS96_0 HGz6
   have hcz6_1 := cellS96_1 HGz6
   have hfz6_1 := blk_frozen HGz6 1
   clear HGz6 hgz6
   go_wp2
   repeat (go_quiet (fail); try go_wp2)
   go_meet
   case rel => exact ⟨_, (((s0_0.length : Int) == 0)), (z_3), H', ⟨z_23⟩, ⟨z_97⟩, ⟨z_98⟩, ⟨z_99⟩⟩
 case rest =>
  clear HC3
  try clear p2
  try clear c5
  try clear c5b0
  try clear c6
  try clear p6
  try clear hcz4_0
  try clear hcz4_1
  try clear hcz6_0
  try clear hcz6_1
  try clear hfz4_1
  try clear hfz6_1
  obtain ⟨kq, x24_2, rfl, HA, HJ2, HI0, HK, HB⟩ := hcut
  cases kq with
  | zero => exact absurd HA.out (by simp [spec_l20Rd_pick.j0])
  | succ kj2 =>
   have H := HA.out
   clear HA
   simp only [spec_l20Rd_pick.j0] at H
   by_cases c7 : x24_2 = true
   ·subst c7
    rw [if_pos rfl] at H
    simp only [Option.some.injEq, Prod.mk.injEq] at H
    obtain ⟨rfl, rfl⟩ := H
    go_wp2
    repeat (go_quiet (fail); try go_wp2)
    go_ret
    exact ⟨z_13, z_97, z_99, z_98⟩
   ·replace c7 := Bool.eq_false_iff.mpr c7
    subst c7
    rw [if_neg (show ¬ (false = true) by decide)] at H
    by_cases c8 : (wrap64 ((wrap64 (s0_1 + 1)) - 1)) < (s0_0.length : Int)
    ·rw [if_pos c8] at H
     have c8b0 : decide ((wrap64 ((wrap64 (s0_1 + 1)) - 1)) < (s0_0.length : Int)) = true := decide_eq_true c8
     clear c8
     obtain ⟨ji9, hji9⟩ : ∃ j_ : Int, (wrap64 ((wrap64 (s0_1 + 1)) - 1)) = j_ := ⟨_, rfl⟩
     replace H : (if 0 ≤ (ji9) then (if a1 = 0 then (none) else (some (Int.tmod (wrap64 (rd s0_0 (ji9))) a1, (wrap64 (s0_1 + 1))))) else (none)) = some (r1, r2) := by first | (rw [hji9] at H; exact H) | (simp only [hji9] at H ⊢; exact H)
     (try rw [hji9] at c8b0)
     have hji9w : (IntKind.i64.wrap ((wrap64 (s0_1 + 1)) - 1)) = ji9 := (i64_w _).trans hji9
     by_cases c10 : 0 ≤ (ji9)
     ·rw [if_pos c10] at H
      have c10b0 : decide (0 ≤ (ji9)) = true := decide_eq_true c10
      clear c10
      by_cases c11 : a1 = 0
      ·rw [if_pos c11] at H
       exact absurd H (z_12)
      ·rw [if_neg c11] at H
       have c11b0 : (a1 == 0) = false := beq_eq_false_iff_ne.mpr c11
       have c11b1 : (a1 != 0) = true := bne_iff_ne.mpr c11
       simp only [Option.some.injEq, Prod.mk.injEq] at H
       obtain ⟨rfl, rfl⟩ := H
       obtain ⟨ASz12_0, cSz12_0, HGz12, hgz12, HSz12_0⟩ := HI0.out
       have hcz12_0 := cellS96_0 HGz12
       have hcz12_1 := cellS96_1 HGz12
       have hfz12_1 := blk_frozen HGz12 1
       clear HGz12 hgz12
       have p295 : 0 ≤ ((ji9) : Int) := of_decide_eq_true (z_7)
       have q295 : (ji9) < (s0_0.length : Int) := of_decide_eq_true (z_7)
       obtain ⟨ad295, e295, hx295_0⟩ := Kd.at_int HSz12_0 (ji9) p295 q295
       cases e295
       replace hx295_0 := pw_cell_below HB.out hx295_0
       replace p295 := eq_true p295
       replace q295 := eq_true q295
       go_wp2
       repeat (go_quiet (fail); try go_wp2)
       go_ret
       exact ⟨by first | rfl | (simp [errW_none, errW_some] <;> rfl) | (simp only [← hji9]; first | rfl | (simp [errW_none, errW_some] <;> rfl)) | (simp [*, errW_none, errW_some] <;> rfl), z_97, z_99, z_98⟩
     ·rw [if_neg c10] at H
      exact absurd H (z_12)
    ·rw [if_neg c8] at H
     have c8b0 : decide ((wrap64 ((wrap64 (s0_1 + 1)) - 1)) < (s0_0.length : Int)) = false := decide_eq_false c8
     clear c8
     by_cases c13 : (s0_0.length : Int) = 0
     ·rw [if_pos c13] at H
      exact absurd H (z_12)
     ·rw [if_neg c13] at H
      have c13b0 : ((s0_0.length : Int) == 0) = false := beq_eq_false_iff_ne.mpr c13
      have c13b1 : ((s0_0.length : Int) != 0) = true := bne_iff_ne.mpr c13
      have c13b2 : ¬ (s0_0 = []) := fun h_ => c13 (by rw [h_]; rfl)
      obtain ⟨ji14, hji14⟩ : ∃ j_ : Int, (Int.tmod (wrap64 ((wrap64 (s0_1 + 1)) - 1)) (s0_0.length : Int)) = j_ := ⟨_, rfl⟩
      replace H : (if 0 ≤ (ji14) then (if (ji14) < (s0_0.length : Int) then (if 0 ≤ (Int.tmod (wrap64 ((wrap64 ((wrap64 ((wrap64 (s0_1 + 1)) - 1)) * 7)) + 3)) (s0_0.length : Int)) then (if (Int.tmod (wrap64 ((wrap64 ((wrap64 ((wrap64 (s0_1 + 1)) - 1)) * 7)) + 3)) (s0_0.length : Int)) < (s0_0.length : Int) then (if a1 = 0 then (none) else (some (Int.tmod (Go.bits .xor .i64 (wrap64 ((wrap64 ((wrap64 ((wrap64 ((wrap64 (rd s0_0 (ji14))) * 131)) + (wrap64 ((wrap64 (rd s0_0 (Int.tmod (wrap64 ((wrap64 ((wrap64 ((wrap64 (s0_1 + 1)) - 1)) * 7)) + 3)) (s0_0.length : Int)))) * 1117)))) + (wrap64 ((wrap64 ((wrap64 (s0_1 + 1)) - 1)) * 29)))) + (wrap64 ((wrap64 (Int.tdiv (wrap64 ((wrap64 (s0_1 + 1)) - 1)) (s0_0.length : Int))) * 53)))) (wrap64 (Int.tdiv (wrap64 ((wrap64 ((wrap64 ((wrap64 ((wrap64 (rd s0_0 (ji14))) * 131)) + (wrap64 ((wrap64 (rd s0_0 (Int.tmod (wrap64 ((wrap64 ((wrap64 ((wrap64 (s0_1 + 1)) - 1)) * 7)) + 3)) (s0_0.length : Int)))) * 1117)))) + (wrap64 ((wrap64 ((wrap64 (s0_1 + 1)) - 1)) * 29)))) + (wrap64 ((wrap64 (Int.tdiv (wrap64 ((wrap64 (s0_1 + 1)) - 1)) (s0_0.length : Int))) * 53)))) 64))) a1, (wrap64 (s0_1 + 1))))) else (none)) else (none)) else (none)) else (none)) = some (r1, r2) := by first | (rw [hji14] at H; exact H) | (simp only [hji14] at H ⊢; exact H)
      by_cases c15 : 0 ≤ (ji14)
      ·rw [if_pos c15] at H
       have c15b0 : decide (0 ≤ (ji14)) = true := decide_eq_true c15
       clear c15
       by_cases c16 : (ji14) < (s0_0.length : Int)
       ·rw [if_pos c16] at H
        have c16b0 : decide ((ji14) < (s0_0.length : Int)) = true := decide_eq_true c16
        clear c16
        obtain ⟨ji17, hji17⟩ : ∃ j_ : Int, (Int.tmod (wrap64 ((wrap64 ((wrap64 ((wrap64 (s0_1 + 1)) - 1)) * 7)) + 3)) (s0_0.length : Int)) = j_ := ⟨_, rfl⟩
        replace H : (if 0 ≤ (ji17) then (if (ji17) < (s0_0.length : Int) then (if a1 = 0 then (none) else (some (Int.tmod (Go.bits .xor .i64 (wrap64 ((wrap64 ((wrap64 ((wrap64 ((wrap64 (rd s0_0 (ji14))) * 131)) + (wrap64 ((wrap64 (rd s0_0 (ji17))) * 1117)))) + (wrap64 ((wrap64 ((wrap64 (s0_1 + 1)) - 1)) * 29)))) + (wrap64 ((wrap64 (Int.tdiv (wrap64 ((wrap64 (s0_1 + 1)) - 1)) (s0_0.length : Int))) * 53)))) (wrap64 (Int.tdiv (wrap64 ((wrap64 ((wrap64 ((wrap64 ((wrap64 (rd s0_0 (ji14))) * 131)) + (wrap64 ((wrap64 (rd s0_0 (ji17))) * 1117)))) + (wrap64 ((wrap64 ((wrap64 (s0_1 + 1)) - 1)) * 29)))) + (wrap64 ((wrap64 (Int.tdiv (wrap64 ((wrap64 (s0_1 + 1)) - 1)) (s0_0.length : Int))) * 53)))) 64))) a1, (wrap64 (s0_1 + 1))))) else (none)) else (none)) = some (r1, r2) := by first | (rw [hji17] at H; exact H) | (simp only [hji17] at H ⊢; exact H)
        by_cases c18 : 0 ≤ (ji17)
        ·rw [if_pos c18] at H
         have c18b0 : decide (0 ≤ (ji17)) = true := decide_eq_true c18
         clear c18
         by_cases c19 : (ji17) < (s0_0.length : Int)
         ·rw [if_pos c19] at H
          have c19b0 : decide ((ji17) < (s0_0.length : Int)) = true := decide_eq_true c19
          clear c19
          by_cases c20 : a1 = 0
          ·rw [if_pos c20] at H
           exact absurd H (z_12)
          ·rw [if_neg c20] at H
           have c20b0 : (a1 == 0) = false := beq_eq_false_iff_ne.mpr c20
           have c20b1 : (a1 != 0) = true := bne_iff_ne.mpr c20
           simp only [Option.some.injEq, Prod.mk.injEq] at H
           obtain ⟨rfl, rfl⟩ := H
           obtain ⟨ASz21_0, cSz21_0, HGz21, hgz21, HSz21_0⟩ := HI0.out
           have hcz21_0 := cellS96_0 HGz21
           have hcz21_1 := cellS96_1 HGz21
           have hfz21_1 := blk_frozen HGz21 1
           clear HGz21 hgz21
           have p296 : 0 ≤ ((ji14) : Int) := of_decide_eq_true (z_7)
           have q296 : (ji14) < (s0_0.length : Int) := of_decide_eq_true (z_7)
           obtain ⟨ad296, e296, hx296_0⟩ := Kd.at_int HSz21_0 (ji14) p296 q296
           cases e296
           replace hx296_0 := pw_cell_below HB.out hx296_0
           replace p296 := eq_true p296
           replace q296 := eq_true q296
           have p297 : 0 ≤ ((ji17) : Int) := of_decide_eq_true (z_7)
           have q297 : (ji17) < (s0_0.length : Int) := of_decide_eq_true (z_7)
           obtain ⟨ad297, e297, hx297_0⟩ := Kd.at_int HSz21_0 (ji17) p297 q297
           obtain rfl : ad296 = ad297 := (by injection e297)
           replace hx297_0 := pw_cell_below HB.out hx297_0
           replace p297 := eq_true p297
           replace q297 := eq_true q297
           go_wp2
           repeat (go_quiet (fail); try go_wp2)
           go_ret
           exact ⟨by first | rfl | (simp [errW_none, errW_some] <;> rfl) | (simp only [← hji14, ← hji17]; first | rfl | (simp [errW_none, errW_some] <;> rfl)) | (simp [*, errW_none, errW_some] <;> rfl), z_97, z_99, z_98⟩
         ·rw [if_neg c19] at H
          exact absurd H (z_12)
        ·rw [if_neg c18] at H
         exact absurd H (z_12)
       ·rw [if_neg c16] at H
        exact absurd H (z_12)
      ·rw [if_neg c15] at H
       exact absurd H (z_12)

/-! ### spec_l20Text: function 68 -/
def spec_l20Text.f (k : Nat) (s0_0 : List Int) (s0_1 : Int) : Option (ByteArray × Int) := (some (([(⟨#[97]⟩ : ByteArray), (⟨#[98]⟩ : ByteArray), (⟨#[99]⟩ : ByteArray), (⟨#[100, 100]⟩ : ByteArray), (⟨#[101, 101]⟩ : ByteArray), (⟨#[102]⟩ : ByteArray), (⟨#[103, 103]⟩ : ByteArray), (⟨#[104]⟩ : ByteArray)] : List ByteArray) : List ByteArray)).bind fun y298 => ((spec_l20Rd_pick.f k s0_0 s0_1 8).bind fun bt301 => (if 0 ≤ bt301.1 then (if bt301.1 < (y298.length : Int) then (some (rdOf ByteArray.empty y298 bt301.1, bt301.2)) else (none)) else (none)))
theorem spec_l20Text.mono : ∀ a0 a1 k, LeO (spec_l20Text.f k a0 a1) (spec_l20Text.f (k + 1) a0 a1) := by
 intro a0 a1 k
 unfold spec_l20Text.f
 repeat' first
   | (with_reducible exact spec_l20Rd_pick.mono _ _ _ _)
   | (with_reducible exact LeO.refl _)
   | (with_reducible exact LeO.none _)
   | (with_reducible refine LeO.ite ?_ ?_)
   | (with_reducible refine LeO.bind ?_ (fun _ => ?_))
   | exact spec_l20Rd_pick.mono _ _ _ _
   | exact LeO.none _
   | refine LeO.ite ?_ ?_
   | refine LeO.bind ?_ (fun _ => ?_)
set_option maxHeartbeats 8000000 in
set_option maxRecDepth 100000 in
theorem spec_l20Text.calls (k : Nat) (g : Nat) (s0_0 : List Int) (s0_1 : Int) (r1 : ByteArray) (r2 : Int) (w0 w : World) (hI : IsS96 w0 w g s0_0 s0_1) (hB : Below w0.heap.size w0 w) (h : spec_l20Text.f k s0_0 s0_1 = some (r1, r2)) :
  Calls Try.prog 68 #[.pointer (some ⟨g, 0, none⟩)] w fun e w' => e = .returned (.string r1) ∧ IsS96 w0 w' g s0_0 r2 ∧ Below w0.heap.size w0 w' ∧ KeepBut w w' g none := by
 have HI0 := Aside0.mk hI
 have HK := Aside0.mk (KeepBut.refl w g none)
 have HL := Aside0.mk hB.size
 clear hI
 have HW0 := Aside0.mk hB.size
 have HB := Aside0.mk hB
 clear hB
 have H : ((some (([(⟨#[97]⟩ : ByteArray), (⟨#[98]⟩ : ByteArray), (⟨#[99]⟩ : ByteArray), (⟨#[100, 100]⟩ : ByteArray), (⟨#[101, 101]⟩ : ByteArray), (⟨#[102]⟩ : ByteArray), (⟨#[103, 103]⟩ : ByteArray), (⟨#[104]⟩ : ByteArray)] : List ByteArray) : List ByteArray)).bind fun y298 => ((spec_l20Rd_pick.f k s0_0 s0_1 8).bind fun bt301 => (if 0 ≤ bt301.1 then (if bt301.1 < (y298.length : Int) then (some (rdOf ByteArray.empty y298 bt301.1, bt301.2)) else (none)) else (none)))) = some (r1, r2) := h
 clear h
 obtain ⟨y298, hy298⟩ : ∃ y_ : List ByteArray, y_ = (([(⟨#[97]⟩ : ByteArray), (⟨#[98]⟩ : ByteArray), (⟨#[99]⟩ : ByteArray), (⟨#[100, 100]⟩ : ByteArray), (⟨#[101, 101]⟩ : ByteArray), (⟨#[102]⟩ : ByteArray), (⟨#[103, 103]⟩ : ByteArray), (⟨#[104]⟩ : ByteArray)] : List ByteArray)) := ⟨_, rfl⟩
 replace H : ((spec_l20Rd_pick.f k s0_0 s0_1 8).bind fun bt301 => (if 0 ≤ bt301.1 then (if bt301.1 < (y298.length : Int) then (some (rdOf ByteArray.empty y298 bt301.1, bt301.2)) else (none)) else (none))) = some (r1, r2) := by first | (rw [hy298]; with_reducible exact H) | (have H2_ := (Option.bind_some _ _).symm.trans H; rw [hy298]; with_reducible exact H2_) | (have H2_ := (Option.bind_some _ _).symm.trans H; with_reducible exact H2_) | with_reducible exact H | (rw [hy298]; exact H) | exact H
 have Ny298 := Aside0.mk hy298
 clear hy298
 replace H := Option.bind_eq_some_iff.mp H
 obtain ⟨⟨t301, t302⟩, A20, H⟩ := H
 replace H : (if 0 ≤ t301 then (if t301 < (y298.length : Int) then (some (rdOf ByteArray.empty y298 t301, t302)) else (none)) else (none)) = some (r1, r2) := H
 have A2 := Aside0.mk A20
 clear A20
 by_cases c3 : 0 ≤ t301
 ·rw [if_pos c3] at H
  have c3b0 : decide (0 ≤ t301) = true := decide_eq_true c3
  clear c3
  by_cases c4 : t301 < (y298.length : Int)
  ·rw [if_pos c4] at H
   have c4b0 : decide (t301 < (y298.length : Int)) = true := decide_eq_true c4
   clear c4
   simp only [Option.some.injEq, Prod.mk.injEq] at H
   obtain ⟨rfl, rfl⟩ := H
   go_enter Try.func68, Try.ntmps68
   go_wp2_with (first | ((with_reducible refine gate_dst (N := 3) rfl ?_); refine Kd.R_lit Kd.string _ 9 ?hg (N := 3) ?hd (xs := ([(⟨#[97]⟩ : ByteArray), (⟨#[98]⟩ : ByteArray), (⟨#[99]⟩ : ByteArray), (⟨#[100, 100]⟩ : ByteArray), (⟨#[101, 101]⟩ : ByteArray), (⟨#[102]⟩ : ByteArray), (⟨#[103, 103]⟩ : ByteArray), (⟨#[104]⟩ : ByteArray)] : List ByteArray)) (inner := [.string (⟨#[97]⟩ : ByteArray), .string (⟨#[98]⟩ : ByteArray), .string (⟨#[99]⟩ : ByteArray), .string (⟨#[100, 100]⟩ : ByteArray), .string (⟨#[101, 101]⟩ : ByteArray), .string (⟨#[102]⟩ : ByteArray), .string (⟨#[103, 103]⟩ : ByteArray), .string (⟨#[104]⟩ : ByteArray)]) (ok := fun _ => True) (okp := fun _ => True) ?hr ?hp (fun _ hk => hk) trivial (Below.refl _ _) (Nat.le_refl _) (z_12) ?_; (case hd => rfl); (case hg => rfl); (case hr => exact z_9); (case hp => exact (Reps.one (show Kd.M Kd.string _ _ _ (⟨#[97]⟩ : ByteArray) [.string (⟨#[97]⟩ : ByteArray)] from rfl) (Reps.one (show Kd.M Kd.string _ _ _ (⟨#[98]⟩ : ByteArray) [.string (⟨#[98]⟩ : ByteArray)] from rfl) (Reps.one (show Kd.M Kd.string _ _ _ (⟨#[99]⟩ : ByteArray) [.string (⟨#[99]⟩ : ByteArray)] from rfl) (Reps.one (show Kd.M Kd.string _ _ _ (⟨#[100, 100]⟩ : ByteArray) [.string (⟨#[100, 100]⟩ : ByteArray)] from rfl) (Reps.one (show Kd.M Kd.string _ _ _ (⟨#[101, 101]⟩ : ByteArray) [.string (⟨#[101, 101]⟩ : ByteArray)] from rfl) (Reps.one (show Kd.M Kd.string _ _ _ (⟨#[102]⟩ : ByteArray) [.string (⟨#[102]⟩ : ByteArray)] from rfl) (Reps.one (show Kd.M Kd.string _ _ _ (⟨#[103, 103]⟩ : ByteArray) [.string (⟨#[103, 103]⟩ : ByteArray)] from rfl) (Reps.one (show Kd.M Kd.string _ _ _ (⟨#[104]⟩ : ByteArray) [.string (⟨#[104]⟩ : ByteArray)] from rfl) (Reps.none _ _)))))))))); intro v299 w5 ho6 hb hg_ hnew_; clear hg_ hnew_; (first | rw [← Ny298.out] at ho6 | (simp only [Int.reduceToNat] at ho6; rw [← Ny298.out] at ho6)); have n0_ := Aside0.mk (Kd.R_lower ho6 (keep_size (w := w) (g := g) (row := none) (z_98))); have n1_ := Aside0.mk (IsS96.below (z_97) hb); have n2_ := Aside0.mk (KeepBut.trans (z_98) (KeepBut.of_below hb g none) (.inl rfl)); have n3_ := Aside0.mk (below_step (z_99) hb); clear HI0; clear HK; clear HB; have HO300 := n0_; have HI0 := n1_; have HK := n2_; have HB := n3_; clear n0_ n1_ n2_ n3_; clear hb ho6) | ((with_reducible refine gate_callee (f := 69) rfl ?_); refine goesL_ (some 5) rfl rfl Try.func69 (z_0) rfl #[.pointer (some ⟨g, 0, none⟩), .int .i64 8] rfl (z_14) ?_; (with_reducible refine (spec_l20Rd_pick.calls k g s0_0 s0_1 8 t301 t302 w0 _ ?side1 ?side2 A2.out).mono ?_); (case side1 => exact z_97); (case side2 => exact z_99); rintro e w7 ⟨rfl, hi, hb, hk⟩; refine ⟨_, rfl, ?_⟩; have n0_ := Aside0.mk (Kd.R_mono (Kd.R_keep (IsS96.apart (show IsS96 w0 _ g s0_0 s0_1 from z_97) (by (with_reducible repeat (first | apply Kd.R_alloc | apply Kd.R_drewN | apply Kd.R_drew)); exact HO300.out) (z_5)) hk (fun _ h => h.2)) (fun _ h => h.1)); have n1_ := Aside0.mk (KeepBut.trans (z_98) hk (.inl rfl)); have n2_ := Aside0.mk (hb); have n3_ := Aside0.mk (hi); clear HO300; clear HK; clear HB; clear HI0; have HO300 := n0_; have HK := n1_; have HB := n2_; have HI0 := n3_; clear n0_ n1_ n2_ n3_; (try clear hb); (try clear hb2); (try clear hk); (try clear hi); obtain ⟨Ao8, co8, eo8⟩ := Kd.R_slice HO300.out; subst eo8; have p303 : 0 ≤ (t301 : Int) := of_decide_eq_true (z_7); have q303 : t301 < (y298.length : Int) := of_decide_eq_true (z_7); obtain ⟨ad303, e303, hx303_0⟩ := Kd.at_string (Kd.R_reads' HO300.out).2.2 t301 p303 q303; cases e303; replace p303 := eq_true p303; replace q303 := eq_true q303))
   go_ret
   exact ⟨z_13, z_97, z_99, z_98⟩
  ·rw [if_neg c4] at H
   exact absurd H (z_12)
 ·rw [if_neg c3] at H
  exact absurd H (z_12)

/-! ### spec_l20Rd_odd: function 78 -/
def spec_l20Rd_odd.f (k : Nat) (s0_0 : List Int) (s0_1 : Int) (a1 : Int) : Option (Bool × Int) := if a1 > 0 then ((spec_l20Rd_pick.f k s0_0 s0_1 a1).bind fun bt304 => (some ((bt304.1 == (wrap64 (a1 - 1))), bt304.2))) else (some (false, s0_1))
theorem spec_l20Rd_odd.mono : ∀ a0 a1 a2 k, LeO (spec_l20Rd_odd.f k a0 a1 a2) (spec_l20Rd_odd.f (k + 1) a0 a1 a2) := by
 intro a0 a1 a2 k
 unfold spec_l20Rd_odd.f
 repeat' first
   | (with_reducible exact spec_l20Rd_pick.mono _ _ _ _)
   | (with_reducible exact LeO.refl _)
   | (with_reducible exact LeO.none _)
   | (with_reducible refine LeO.ite ?_ ?_)
   | (with_reducible refine LeO.bind ?_ (fun _ => ?_))
   | exact spec_l20Rd_pick.mono _ _ _ _
   | exact LeO.none _
   | refine LeO.ite ?_ ?_
   | refine LeO.bind ?_ (fun _ => ?_)
set_option maxHeartbeats 8000000 in
set_option maxRecDepth 100000 in
theorem spec_l20Rd_odd.calls (k : Nat) (g : Nat) (s0_0 : List Int) (s0_1 : Int) (a1 : Int) (r1 : Bool) (r2 : Int) (w0 w : World) (hI : IsS96 w0 w g s0_0 s0_1) (hB : Below w0.heap.size w0 w) (h : spec_l20Rd_odd.f k s0_0 s0_1 a1 = some (r1, r2)) :
  Calls Try.prog 78 #[.pointer (some ⟨g, 0, none⟩), .int .i64 a1] w fun e w' => e = .returned (.bool r1) ∧ IsS96 w0 w' g s0_0 r2 ∧ Below w0.heap.size w0 w' ∧ KeepBut w w' g none := by
 have HI0 := Aside0.mk hI
 have HK := Aside0.mk (KeepBut.refl w g none)
 have HL := Aside0.mk hB.size
 clear hI
 have HW0 := Aside0.mk hB.size
 have HB := Aside0.mk hB
 clear hB
 have H : (if a1 > 0 then ((spec_l20Rd_pick.f k s0_0 s0_1 a1).bind fun bt304 => (some ((bt304.1 == (wrap64 (a1 - 1))), bt304.2))) else (some (false, s0_1))) = some (r1, r2) := h
 clear h
 by_cases c3 : a1 > 0
 ·rw [if_pos c3] at H
  have c3b0 : decide (0 < a1) = true := decide_eq_true c3
  clear c3
  replace H := Option.bind_eq_some_iff.mp H
  obtain ⟨⟨t304, t305⟩, A40, H⟩ := H
  replace H : (some ((t304 == (wrap64 (a1 - 1))), t305)) = some (r1, r2) := H
  have A4 := Aside0.mk A40
  clear A40
  simp only [Option.some.injEq, Prod.mk.injEq] at H
  obtain ⟨rfl, rfl⟩ := H
  go_enter Try.func78, Try.ntmps78
  go_wp2_with (first | (go_at_call 69; (with_reducible refine (spec_l20Rd_pick.calls k g s0_0 s0_1 a1 t304 t305 w0 _ ?side1 ?side2 A4.out).mono ?_); (case side1 => exact z_97); (case side2 => exact z_99); rintro e w5 ⟨rfl, hi, hb, hk⟩; have n0_ := Aside0.mk (KeepBut.trans (z_98) hk (.inl rfl)); have n1_ := Aside0.mk (hb); have n2_ := Aside0.mk (hi); clear HK; clear HB; clear HI0; have HK := n0_; have HB := n1_; have HI0 := n2_; clear n0_ n1_ n2_; (try clear hb); (try clear hb2); (try clear hk); (try clear hi)))
  go_ret
  exact ⟨z_13, z_97, z_99, z_98⟩
 ·rw [if_neg c3] at H
  have c3b0 : decide (0 < a1) = false := decide_eq_false c3
  clear c3
  simp only [Option.some.injEq, Prod.mk.injEq] at H
  obtain ⟨rfl, rfl⟩ := H
  go_enter Try.func78, Try.ntmps78
  go_wp2
  go_ret
  exact ⟨z_13, z_97, z_99, z_98⟩

/-! ### spec_l20Name: function 59 -/
def spec_l20Name.j0 : Nat → Int → List Int → Int → ByteArray → Int → Int → ByteArray → Int → Option (ByteArray × Int × Int × ByteArray × Int × Int)
 | 0, _, _, _, _, _, _, _, _ => none
 | k + 1, x1, x1000, x1001, x314000, x314001, x314002, x314003, x314004 => (spec_l20Rd_odd.f k x1000 x1001 x1).bind fun bt318 => (if bt318.1 = true then ((spec_l20Rd_pick.f k x1000 bt318.2 4).bind fun bt320 => (if bt320.1 = 0 then ((some (([(⟨#[]⟩ : ByteArray), (⟨#[65]⟩ : ByteArray), (⟨#[97, 98, 99, 100, 101, 102, 103, 104, 105, 106, 107, 108, 109]⟩ : ByteArray)] : List ByteArray) : List ByteArray)).bind fun y322 => ((spec_l20Rd_pick.f k x1000 bt320.2 3).bind fun bt325 => (if 0 ≤ bt325.1 then (if bt325.1 < (y322.length : Int) then (some (rdOf ByteArray.empty y322 bt325.1, x314001, x314002, x314003, x314004, bt325.2)) else (none)) else (none)))) else (if bt320.1 = 1 then ((spec_l20Rd_pick.f k x1000 bt320.2 2).bind fun bt328 => (some (x314000, x314001, x314002, x314003, wrap64 (bt328.1 * 51), bt328.2))) else (if bt320.1 = 2 then ((spec_l20Rd_pick.f k x1000 bt320.2 5).bind fun bt330 => (some (x314000, bt330.1, x314002, x314003, x314004, bt330.2))) else (some (x314000, x314001, x314002, (⟨#[120, 32, 121]⟩ : ByteArray), x314004, bt320.2)))))) else (some (x314000, x314001, x314002, x314003, x314004, bt318.2)))
def spec_l20Name.f (k : Nat) (s0_0 : List Int) (s0_1 : Int) (a1 : Int) : Option (ByteArray × Int × Int × ByteArray × Int × Int) := (spec_l20Text.f k s0_0 s0_1).bind fun bt307 => ((spec_l20Rd_pick.f k s0_0 bt307.2 9).bind fun bt309 => ((spec_l20Rd_pick.f k s0_0 bt309.2 20).bind fun bt311 => ((spec_l20Rd_pick.f k s0_0 bt311.2 2).bind fun bt314 => (if bt314.1 = 0 then ((spec_l20Text.f k s0_0 bt314.2).bind fun bt316 => (spec_l20Name.j0 k a1 s0_0 bt316.2 bt307.1 2 0 bt316.1 (wrap64 (1 + bt311.1)))) else (spec_l20Name.j0 k a1 s0_0 bt314.2 bt307.1 1 bt309.1 (⟨#[]⟩ : ByteArray) (wrap64 (1 + bt311.1)))))))
theorem spec_l20Name.mono_l : ∀ k, (∀ y0 y1 y2 y3 y4 y5 y6 y7, LeO (spec_l20Name.j0 k y0 y1 y2 y3 y4 y5 y6 y7) (spec_l20Name.j0 (k + 1) y0 y1 y2 y3 y4 y5 y6 y7))
 | 0 => fun _ _ _ _ _ _ _ _ r h => by simp [spec_l20Name.j0] at h
 | k + 1 => by
  have ih0 := spec_l20Name.mono_l k
  ·intro y0 y1 y2 y3 y4 y5 y6 y7
   unfold spec_l20Name.j0
   repeat' first
   | (with_reducible exact ih0 _ _ _ _ _ _ _ _)
   | (with_reducible exact spec_l20Rd_odd.mono _ _ _ _)
   | (with_reducible exact spec_l20Rd_pick.mono _ _ _ _)
   | (with_reducible exact spec_l20Text.mono _ _ _)
   | (with_reducible exact LeO.refl _)
   | (with_reducible exact LeO.none _)
   | (with_reducible refine LeO.ite ?_ ?_)
   | (with_reducible refine LeO.bind ?_ (fun _ => ?_))
   | exact ih0 _ _ _ _ _ _ _ _
   | exact spec_l20Rd_odd.mono _ _ _ _
   | exact spec_l20Rd_pick.mono _ _ _ _
   | exact spec_l20Text.mono _ _ _
   | exact LeO.none _
   | refine LeO.ite ?_ ?_
   | refine LeO.bind ?_ (fun _ => ?_)
theorem spec_l20Name.mono : ∀ a0 a1 a2 k, LeO (spec_l20Name.f k a0 a1 a2) (spec_l20Name.f (k + 1) a0 a1 a2) := by
 intro a0 a1 a2 k
 have ih0 := spec_l20Name.mono_l k
 unfold spec_l20Name.f
 repeat' first
   | (with_reducible exact ih0 _ _ _ _ _ _ _ _)
   | (with_reducible exact spec_l20Rd_odd.mono _ _ _ _)
   | (with_reducible exact spec_l20Rd_pick.mono _ _ _ _)
   | (with_reducible exact spec_l20Text.mono _ _ _)
   | (with_reducible exact LeO.refl _)
   | (with_reducible exact LeO.none _)
   | (with_reducible refine LeO.ite ?_ ?_)
   | (with_reducible refine LeO.bind ?_ (fun _ => ?_))
   | exact ih0 _ _ _ _ _ _ _ _
   | exact spec_l20Rd_odd.mono _ _ _ _
   | exact spec_l20Rd_pick.mono _ _ _ _
   | exact spec_l20Text.mono _ _ _
   | exact LeO.none _
   | refine LeO.ite ?_ ?_
   | refine LeO.bind ?_ (fun _ => ?_)
set_option maxHeartbeats 8000000 in
set_option maxRecDepth 100000 in
theorem spec_l20Name.calls (k : Nat) (g : Nat) (s0_0 : List Int) (s0_1 : Int) (a1 : Int) (r1 : ByteArray) (r2 : Int) (r3 : Int) (r4 : ByteArray) (r5 : Int) (r6 : Int) (w0 w : World) (hI : IsS96 w0 w g s0_0 s0_1) (hB : Below w0.heap.size w0 w) (h : spec_l20Name.f k s0_0 s0_1 a1 = some (r1, r2, r3, r4, r5, r6)) :
  Calls Try.prog 59 #[.pointer (some ⟨g, 0, none⟩), .int .i64 a1] w fun e w' => e = .returned (.agg #[.string r1, .int .i64 r2, .int .i64 r3, .string r4, .int .i64 r5]) ∧ IsS96 w0 w' g s0_0 r6 ∧ Below w0.heap.size w0 w' ∧ KeepBut w w' g none := by
 have hu26 := Try.underlying26
 have HI0 := Aside0.mk hI
 have HK := Aside0.mk (KeepBut.refl w g none)
 have HL := Aside0.mk hB.size
 clear hI
 have HW0 := Aside0.mk hB.size
 have HB := Aside0.mk hB
 clear hB
 have H : ((spec_l20Text.f k s0_0 s0_1).bind fun bt307 => ((spec_l20Rd_pick.f k s0_0 bt307.2 9).bind fun bt309 => ((spec_l20Rd_pick.f k s0_0 bt309.2 20).bind fun bt311 => ((spec_l20Rd_pick.f k s0_0 bt311.2 2).bind fun bt314 => (if bt314.1 = 0 then ((spec_l20Text.f k s0_0 bt314.2).bind fun bt316 => (spec_l20Name.j0 k a1 s0_0 bt316.2 bt307.1 2 0 bt316.1 (wrap64 (1 + bt311.1)))) else (spec_l20Name.j0 k a1 s0_0 bt314.2 bt307.1 1 bt309.1 (⟨#[]⟩ : ByteArray) (wrap64 (1 + bt311.1)))))))) = some (r1, r2, r3, r4, r5, r6) := h
 clear h
 replace H := Option.bind_eq_some_iff.mp H
 obtain ⟨⟨t307, t308⟩, A30, H⟩ := H
 replace H : ((spec_l20Rd_pick.f k s0_0 t308 9).bind fun bt309 => ((spec_l20Rd_pick.f k s0_0 bt309.2 20).bind fun bt311 => ((spec_l20Rd_pick.f k s0_0 bt311.2 2).bind fun bt314 => (if bt314.1 = 0 then ((spec_l20Text.f k s0_0 bt314.2).bind fun bt316 => (spec_l20Name.j0 k a1 s0_0 bt316.2 t307 2 0 bt316.1 (wrap64 (1 + bt311.1)))) else (spec_l20Name.j0 k a1 s0_0 bt314.2 t307 1 bt309.1 (⟨#[]⟩ : ByteArray) (wrap64 (1 + bt311.1))))))) = some (r1, r2, r3, r4, r5, r6) := H
 have A3 := Aside0.mk A30
 clear A30
 replace H := Option.bind_eq_some_iff.mp H
 obtain ⟨⟨t309, t310⟩, A40, H⟩ := H
 replace H : ((spec_l20Rd_pick.f k s0_0 t310 20).bind fun bt311 => ((spec_l20Rd_pick.f k s0_0 bt311.2 2).bind fun bt314 => (if bt314.1 = 0 then ((spec_l20Text.f k s0_0 bt314.2).bind fun bt316 => (spec_l20Name.j0 k a1 s0_0 bt316.2 t307 2 0 bt316.1 (wrap64 (1 + bt311.1)))) else (spec_l20Name.j0 k a1 s0_0 bt314.2 t307 1 t309 (⟨#[]⟩ : ByteArray) (wrap64 (1 + bt311.1)))))) = some (r1, r2, r3, r4, r5, r6) := H
 have A4 := Aside0.mk A40
 clear A40
 replace H := Option.bind_eq_some_iff.mp H
 obtain ⟨⟨t311, t312⟩, A50, H⟩ := H
 replace H : ((spec_l20Rd_pick.f k s0_0 t312 2).bind fun bt314 => (if bt314.1 = 0 then ((spec_l20Text.f k s0_0 bt314.2).bind fun bt316 => (spec_l20Name.j0 k a1 s0_0 bt316.2 t307 2 0 bt316.1 (wrap64 (1 + t311)))) else (spec_l20Name.j0 k a1 s0_0 bt314.2 t307 1 t309 (⟨#[]⟩ : ByteArray) (wrap64 (1 + t311))))) = some (r1, r2, r3, r4, r5, r6) := H
 have A5 := Aside0.mk A50
 clear A50
 replace H := Option.bind_eq_some_iff.mp H
 obtain ⟨⟨t314, t315⟩, A60, H⟩ := H
 replace H : (if t314 = 0 then ((spec_l20Text.f k s0_0 t315).bind fun bt316 => (spec_l20Name.j0 k a1 s0_0 bt316.2 t307 2 0 bt316.1 (wrap64 (1 + t311)))) else (spec_l20Name.j0 k a1 s0_0 t315 t307 1 t309 (⟨#[]⟩ : ByteArray) (wrap64 (1 + t311)))) = some (r1, r2, r3, r4, r5, r6) := H
 have A6 := Aside0.mk A60
 clear A60
 have HC7 := Aside0.mk H
 clear H
 go_enter Try.func59, Try.ntmps59
 go_upto_if 16 with (first | ((with_reducible refine gate_dst (N := 4) rfl ?_); refine box_event ?hg (N := 4) ?hd (cs := #[.string (⟨#[]⟩ : ByteArray), .int .i64 0, .int .i64 0, .string (⟨#[]⟩ : ByteArray), .int .i64 0]) (t := 26) ?hr ?_; (case hd => rfl); (case hg => rfl); (case hr => exact z_9); intro gb306 hg w8 hbox hb; have n0_ := Aside0.mk (IsS96.below (z_97) hb); have n1_ := Aside0.mk (KeepBut.trans (z_98) (KeepBut.of_below hb g none) (.inl rfl)); have n2_ := Aside0.mk (below_step (z_99) hb); have n3_ := Aside0.mk (hbox); have n4_ := Aside0.mk ((z_100 : w.heap.size ≤ gb306)); have n5_ := Aside0.mk ((Nat.le_trans HW0.out (z_100 : w.heap.size ≤ gb306) : w0.heap.size ≤ gb306)); have n6_ := Aside0.mk ((by rw [hg]; exact Nat.ne_of_lt (IsS96.lt (show IsS96 w0 _ g s0_0 s0_1 from z_97)) : g ≠ gb306)); have n7_ := Aside0.mk ((by rw [hg]; exact Nat.ne_of_gt (IsS96.lt (show IsS96 w0 _ g s0_0 s0_1 from z_97)) : gb306 ≠ g)); clear HI0; clear HK; clear HB; have HI0 := n0_; have HK := n1_; have HB := n2_; have BK306 := n3_; have GW306 := n4_; have GE306 := n5_; have NB0_306 := n6_; have NB306_0 := n7_; clear n0_ n1_ n2_ n3_ n4_ n5_ n6_ n7_; clear hb hbox hg) | ((with_reducible refine gate_callee (f := 68) rfl ?_); refine goesL_ (some 7) rfl rfl Try.func68 (z_0) rfl #[.pointer (some ⟨g, 0, none⟩)] rfl (z_14) ?_; (with_reducible refine (spec_l20Text.calls k g s0_0 s0_1 t307 t308 w0 _ ?side1 ?side2 A3.out).mono ?_); (case side1 => exact z_101); (case side2 => exact z_102); rintro e w9 ⟨rfl, hi, hb, hk⟩; refine ⟨_, rfl, ?_⟩; have n0_ := Aside0.mk (KeepBut.blk hk (g' := gb306) (o := .cells #[.string (⟨#[]⟩ : ByteArray), .int .i64 0, .int .i64 0, .string (⟨#[]⟩ : ByteArray), .int .i64 0] 26 (0, 0)) (z_103) NB306_0.out (z_12)); have n1_ := Aside0.mk (KeepBut.trans (z_104) hk (.inl rfl)); have n2_ := Aside0.mk (hb); have n3_ := Aside0.mk (hi); clear BK306; clear HK; clear HB; clear HI0; have BK306 := n0_; have HK := n1_; have HB := n2_; have HI0 := n3_; clear n0_ n1_ n2_ n3_; (try clear hb); (try clear hb2); (try clear hk); (try clear hi)) | ((with_reducible refine gate_callee (f := 69) rfl ?_); refine goesL_ (some 9) rfl rfl Try.func69 (z_0) rfl #[.pointer (some ⟨g, 0, none⟩), .int .i64 9] rfl (z_14) ?_; (with_reducible refine (spec_l20Rd_pick.calls k g s0_0 t308 9 t309 t310 w0 _ ?side1 ?side2 A4.out).mono ?_); (case side1 => exact z_101); (case side2 => exact z_102); rintro e w10 ⟨rfl, hi, hb, hk⟩; refine ⟨_, rfl, ?_⟩; have n0_ := Aside0.mk (KeepBut.blk hk (g' := gb306) (o := .cells #[.string (⟨#[]⟩ : ByteArray), .int .i64 0, .int .i64 0, .string (⟨#[]⟩ : ByteArray), .int .i64 0] 26 (0, 0)) (z_103) NB306_0.out (z_12)); have n1_ := Aside0.mk (KeepBut.trans (z_104) hk (.inl rfl)); have n2_ := Aside0.mk (hb); have n3_ := Aside0.mk (hi); clear BK306; clear HK; clear HB; clear HI0; have BK306 := n0_; have HK := n1_; have HB := n2_; have HI0 := n3_; clear n0_ n1_ n2_ n3_; (try clear hb); (try clear hb2); (try clear hk); (try clear hi)) | ((with_reducible refine gate_callee (f := 69) rfl ?_); refine goesL_ (some 11) rfl rfl Try.func69 (z_0) rfl #[.pointer (some ⟨g, 0, none⟩), .int .i64 20] rfl (z_14) ?_; (with_reducible refine (spec_l20Rd_pick.calls k g s0_0 t310 20 t311 t312 w0 _ ?side1 ?side2 A5.out).mono ?_); (case side1 => exact z_101); (case side2 => exact z_102); rintro e w11 ⟨rfl, hi, hb, hk⟩; refine ⟨_, rfl, ?_⟩; have n0_ := Aside0.mk (KeepBut.blk hk (g' := gb306) (o := .cells #[.string (⟨#[]⟩ : ByteArray), .int .i64 0, .int .i64 0, .string (⟨#[]⟩ : ByteArray), .int .i64 0] 26 (0, 0)) (z_103) NB306_0.out (z_12)); have n1_ := Aside0.mk (KeepBut.trans (z_104) hk (.inl rfl)); have n2_ := Aside0.mk (hb); have n3_ := Aside0.mk (hi); clear BK306; clear HK; clear HB; clear HI0; have BK306 := n0_; have HK := n1_; have HB := n2_; have HI0 := n3_; clear n0_ n1_ n2_ n3_; (try clear hb); (try clear hb2); (try clear hk); (try clear hi)) | ((with_reducible refine gate_dst (N := 5) rfl ?_); refine box_event ?hg (N := 5) ?hd (cs := #[.string (⟨#[]⟩ : ByteArray), .int .i64 0, .int .i64 0, .string (⟨#[]⟩ : ByteArray), .int .i64 0]) (t := 26) ?hr ?_; (case hd => rfl); (case hg => rfl); (case hr => exact z_9); intro gb313 hg w12 hbox hb; have n0_ := Aside0.mk (IsS96.below (z_101) hb); have n1_ := Aside0.mk (blk_below (g := gb306) (o := .cells #[.string (⟨#[]⟩ : ByteArray), .int .i64 0, .int .i64 0, .string (⟨#[]⟩ : ByteArray), .int .i64 0] 26 (0, 0)) (z_103) hb); have n2_ := Aside0.mk (KeepBut.trans (z_104) (KeepBut.of_below hb g none) (.inl rfl)); have n3_ := Aside0.mk (below_step (z_102) hb); have n4_ := Aside0.mk (hbox); have n5_ := Aside0.mk ((z_105 : w.heap.size ≤ gb313)); have n6_ := Aside0.mk ((Nat.le_trans HW0.out (z_105 : w.heap.size ≤ gb313) : w0.heap.size ≤ gb313)); have n7_ := Aside0.mk ((by rw [hg]; exact Nat.ne_of_lt (blk_lt (g := gb306) (o := .cells #[.string (⟨#[]⟩ : ByteArray), .int .i64 0, .int .i64 0, .string (⟨#[]⟩ : ByteArray), .int .i64 0] 26 (0, 0)) (z_103)) : gb306 ≠ gb313)); have n8_ := Aside0.mk ((by rw [hg]; exact Nat.ne_of_gt (blk_lt (g := gb306) (o := .cells #[.string (⟨#[]⟩ : ByteArray), .int .i64 0, .int .i64 0, .string (⟨#[]⟩ : ByteArray), .int .i64 0] 26 (0, 0)) (z_103)) : gb313 ≠ gb306)); have n9_ := Aside0.mk ((by rw [hg]; exact Nat.ne_of_lt (IsS96.lt (show IsS96 w0 _ g s0_0 t312 from z_101)) : g ≠ gb313)); have n10_ := Aside0.mk ((by rw [hg]; exact Nat.ne_of_gt (IsS96.lt (show IsS96 w0 _ g s0_0 t312 from z_101)) : gb313 ≠ g)); clear HI0; clear BK306; clear HK; clear HB; have HI0 := n0_; have BK306 := n1_; have HK := n2_; have HB := n3_; have BK313 := n4_; have GW313 := n5_; have GE313 := n6_; have NB306_313 := n7_; have NB313_306 := n8_; have NB0_313 := n9_; have NB313_0 := n10_; clear n0_ n1_ n2_ n3_ n4_ n5_ n6_ n7_ n8_ n9_ n10_; clear hb hbox hg; have hnb13 := NB313_306.out; have hnc13 := NB306_313.out; have hnb14 := NB313_0.out; have hnc14 := NB0_313.out; have hcz15_0 : w12.cell? ⟨gb313, 0, none⟩ = some (.string (⟨#[]⟩ : ByteArray)) := (blk_cell BK313.out 0).trans rfl; have hcz15_1 : w12.cell? ⟨gb313, 1, none⟩ = some (.int .i64 0) := (blk_cell BK313.out 1).trans rfl; have hcz15_2 : w12.cell? ⟨gb313, 2, none⟩ = some (.int .i64 0) := (blk_cell BK313.out 2).trans rfl; have hcz15_3 : w12.cell? ⟨gb313, 3, none⟩ = some (.string (⟨#[]⟩ : ByteArray)) := (blk_cell BK313.out 3).trans rfl; have hcz15_4 : w12.cell? ⟨gb313, 4, none⟩ = some (.int .i64 0) := (blk_cell BK313.out 4).trans rfl; have hfz15_0 := blk_frozen BK313.out 0; have hfz15_1 := blk_frozen BK313.out 1; have hfz15_2 := blk_frozen BK313.out 2; have hfz15_3 := blk_frozen BK313.out 3; have hfz15_4 := blk_frozen BK313.out 4) | ((with_reducible refine gate_callee (f := 69) rfl ?_); refine goesL_ (some 15) rfl rfl Try.func69 (z_0) rfl #[.pointer (some ⟨g, 0, none⟩), .int .i64 2] rfl (z_14) ?_; (with_reducible refine (spec_l20Rd_pick.calls k g s0_0 t312 2 t314 t315 w0 _ ?side1 ?side2 A6.out).mono ?_); (case side1 => exact z_106); (case side2 => exact z_107); rintro e w16 ⟨rfl, hi, hb, hk⟩; refine ⟨_, rfl, ?_⟩; have n0_ := Aside0.mk (KeepBut.blk hk (g' := gb306) (o := .cells #[.string (⟨#[]⟩ : ByteArray), .int .i64 0, .int .i64 0, .string (⟨#[]⟩ : ByteArray), .int .i64 0] 26 (0, 0)) (by (with_reducible repeat (first | refine blk_drewN ?_ _ | refine blk_drew ?_ | refine blk_alloc ?_ _)); refine blk_far ?_ NB306_313.out _; (with_reducible repeat (first | refine blk_drewN ?_ _ | refine blk_drew ?_ | refine blk_alloc ?_ _)); refine blk_far ?_ NB306_313.out _; (with_reducible repeat (first | refine blk_drewN ?_ _ | refine blk_drew ?_ | refine blk_alloc ?_ _)); refine blk_far ?_ NB306_313.out _; (with_reducible repeat (first | refine blk_drewN ?_ _ | refine blk_drew ?_ | refine blk_alloc ?_ _)); refine blk_far ?_ NB306_313.out _; (with_reducible repeat (first | refine blk_drewN ?_ _ | refine blk_drew ?_ | refine blk_alloc ?_ _)); refine blk_far ?_ NB306_313.out _; (with_reducible repeat (first | refine blk_drewN ?_ _ | refine blk_drew ?_ | refine blk_alloc ?_ _)); exact BK306.out) NB306_0.out (z_12)); have n1_ := Aside0.mk (KeepBut.blk hk (g' := gb313) (o := .cells #[.string t307, .int .i64 1, .int .i64 t309, .string (⟨#[]⟩ : ByteArray), .int .i64 (wrap64 (1 + t311))] 26 (0, 0)) (by (with_reducible repeat (first | refine blk_drewN ?_ _ | refine blk_drew ?_ | refine blk_alloc ?_ _)); refine blk_put (cs := #[.string t307, .int .i64 1, .int .i64 t309, .string (⟨#[]⟩ : ByteArray), .int .i64 0]) ?_ 4 _ rfl; (with_reducible repeat (first | refine blk_drewN ?_ _ | refine blk_drew ?_ | refine blk_alloc ?_ _)); refine blk_put (cs := #[.string t307, .int .i64 1, .int .i64 t309, .string (⟨#[]⟩ : ByteArray), .int .i64 0]) ?_ 3 _ rfl; (with_reducible repeat (first | refine blk_drewN ?_ _ | refine blk_drew ?_ | refine blk_alloc ?_ _)); refine blk_put (cs := #[.string t307, .int .i64 1, .int .i64 0, .string (⟨#[]⟩ : ByteArray), .int .i64 0]) ?_ 2 _ rfl; (with_reducible repeat (first | refine blk_drewN ?_ _ | refine blk_drew ?_ | refine blk_alloc ?_ _)); refine blk_put (cs := #[.string t307, .int .i64 0, .int .i64 0, .string (⟨#[]⟩ : ByteArray), .int .i64 0]) ?_ 1 _ rfl; (with_reducible repeat (first | refine blk_drewN ?_ _ | refine blk_drew ?_ | refine blk_alloc ?_ _)); refine blk_put (cs := #[.string (⟨#[]⟩ : ByteArray), .int .i64 0, .int .i64 0, .string (⟨#[]⟩ : ByteArray), .int .i64 0]) ?_ 0 _ rfl; (with_reducible repeat (first | refine blk_drewN ?_ _ | refine blk_drew ?_ | refine blk_alloc ?_ _)); exact BK313.out) NB313_0.out (z_12)); have n2_ := Aside0.mk (KeepBut.trans (z_108) hk (.inl rfl)); have n3_ := Aside0.mk (hb); have n4_ := Aside0.mk (hi); clear BK306; clear BK313; clear HK; clear HB; clear HI0; have BK306 := n0_; have BK313 := n1_; have HK := n2_; have HB := n3_; have HI0 := n4_; clear n0_ n1_ n2_ n3_ n4_; (try clear hb); (try clear hb2); (try clear hk); (try clear hi)))
 (try simp only [Act.put, List.setIfInBounds_toArray, List.set_cons_zero, List.set_cons_succ])
 go_cut [] (fun wc => ∃ (kq : Nat) (x1001_6 : Int) (x314001_6 : Int) (x314002_6 : Int) (x314003_6 : ByteArray), Aside0 (spec_l20Name.j0 kq a1 s0_0 x1001_6 t307 x314001_6 x314002_6 x314003_6 (wrap64 (1 + t311)) = some (r1, r2, r3, r4, r5, r6)) ∧ Aside0 (kq ≤ k) ∧ Aside0 (wc.heap[gb306]? = some (.cells #[.string (⟨#[]⟩ : ByteArray), .int .i64 0, .int .i64 0, .string (⟨#[]⟩ : ByteArray), .int .i64 0] 26 (0, 0))) ∧ Aside0 (wc.heap[gb313]? = some (.cells #[.string t307, .int .i64 x314001_6, .int .i64 x314002_6, .string x314003_6, .int .i64 (wrap64 (1 + t311))] 26 (0, 0))) ∧ Aside0 (IsS96 w0 wc g s0_0 x1001_6) ∧ Aside0 (KeepBut w wc g none) ∧ Aside0 (Below w0.heap.size w0 wc))
 case first =>
  have H := HC7.out
  clear HC7
  by_cases c17 : t314 = 0
  ·rw [if_pos c17] at H
   have c17b0 : (t314 == 0) = true := beq_iff_eq.mpr c17
   have c17b1 : (t314 != 0) = false := bne_eq_false_iff_eq.mpr c17
   clear c17
   (first | rw [c17b0] | (simp only [i64_w, i32_w]; rw [c17b0]) | skip)
   replace H := Option.bind_eq_some_iff.mp H
   obtain ⟨⟨t316, t317⟩, A180, H⟩ := H
   replace H : (spec_l20Name.j0 k a1 s0_0 t317 t307 2 0 t316 (wrap64 (1 + t311))) = some (r1, r2, r3, r4, r5, r6) := H
   have A18 := Aside0.mk A180
   clear A180
   have H' := Aside0.mk H
   clear H
   have hnb19 := NB313_306.out
   have hnc19 := NB306_313.out
   have hnb20 := NB313_0.out
   have hnc20 := NB0_313.out
   have hcz21_0 : w16.cell? ⟨gb313, 0, none⟩ = some (.string t307) := (blk_cell BK313.out 0).trans rfl
   have hcz21_1 : w16.cell? ⟨gb313, 1, none⟩ = some (.int .i64 1) := (blk_cell BK313.out 1).trans rfl
   have hcz21_2 : w16.cell? ⟨gb313, 2, none⟩ = some (.int .i64 t309) := (blk_cell BK313.out 2).trans rfl
   have hcz21_3 : w16.cell? ⟨gb313, 3, none⟩ = some (.string (⟨#[]⟩ : ByteArray)) := (blk_cell BK313.out 3).trans rfl
   have hcz21_4 : w16.cell? ⟨gb313, 4, none⟩ = some (.int .i64 (wrap64 (1 + t311))) := (blk_cell BK313.out 4).trans rfl
   have hfz21_0 := blk_frozen BK313.out 0
   have hfz21_1 := blk_frozen BK313.out 1
   have hfz21_2 := blk_frozen BK313.out 2
   have hfz21_3 := blk_frozen BK313.out 3
   have hfz21_4 := blk_frozen BK313.out 4
   go_wp2_with (first | ((with_reducible refine gate_callee (f := 68) rfl ?_); refine goesL_ (some 20) rfl rfl Try.func68 (z_0) rfl #[.pointer (some ⟨g, 0, none⟩)] rfl (z_14) ?_; (with_reducible refine (spec_l20Text.calls k g s0_0 t315 t316 t317 w0 _ ?side1 ?side2 A18.out).mono ?_); (case side1 => exact z_106); (case side2 => exact z_107); rintro e w22 ⟨rfl, hi, hb, hk⟩; refine ⟨_, rfl, ?_⟩; have n0_ := Aside0.mk (KeepBut.blk hk (g' := gb306) (o := .cells #[.string (⟨#[]⟩ : ByteArray), .int .i64 0, .int .i64 0, .string (⟨#[]⟩ : ByteArray), .int .i64 0] 26 (0, 0)) (by (with_reducible repeat (first | refine blk_drewN ?_ _ | refine blk_drew ?_ | refine blk_alloc ?_ _)); refine blk_far ?_ NB306_313.out _; (with_reducible repeat (first | refine blk_drewN ?_ _ | refine blk_drew ?_ | refine blk_alloc ?_ _)); refine blk_far ?_ NB306_313.out _; (with_reducible repeat (first | refine blk_drewN ?_ _ | refine blk_drew ?_ | refine blk_alloc ?_ _)); exact BK306.out) NB306_0.out (z_12)); have n1_ := Aside0.mk (KeepBut.blk hk (g' := gb313) (o := .cells #[.string t307, .int .i64 2, .int .i64 0, .string (⟨#[]⟩ : ByteArray), .int .i64 (wrap64 (1 + t311))] 26 (0, 0)) (by (with_reducible repeat (first | refine blk_drewN ?_ _ | refine blk_drew ?_ | refine blk_alloc ?_ _)); refine blk_put (cs := #[.string t307, .int .i64 2, .int .i64 t309, .string (⟨#[]⟩ : ByteArray), .int .i64 (wrap64 (1 + t311))]) ?_ 2 _ rfl; (with_reducible repeat (first | refine blk_drewN ?_ _ | refine blk_drew ?_ | refine blk_alloc ?_ _)); refine blk_put (cs := #[.string t307, .int .i64 1, .int .i64 t309, .string (⟨#[]⟩ : ByteArray), .int .i64 (wrap64 (1 + t311))]) ?_ 1 _ rfl; (with_reducible repeat (first | refine blk_drewN ?_ _ | refine blk_drew ?_ | refine blk_alloc ?_ _)); exact BK313.out) NB313_0.out (z_12)); have n2_ := Aside0.mk (KeepBut.trans (z_108) hk (.inl rfl)); have n3_ := Aside0.mk (hb); have n4_ := Aside0.mk (hi); clear BK306; clear BK313; clear HK; clear HB; clear HI0; have BK306 := n0_; have BK313 := n1_; have HK := n2_; have HB := n3_; have HI0 := n4_; clear n0_ n1_ n2_ n3_ n4_; (try clear hb); (try clear hb2); (try clear hk); (try clear hi); have hcz23_0 : w22.cell? ⟨gb313, 0, none⟩ = some (.string t307) := (blk_cell BK313.out 0).trans rfl; have hcz23_1 : w22.cell? ⟨gb313, 1, none⟩ = some (.int .i64 2) := (blk_cell BK313.out 1).trans rfl; have hcz23_2 : w22.cell? ⟨gb313, 2, none⟩ = some (.int .i64 0) := (blk_cell BK313.out 2).trans rfl; have hcz23_3 : w22.cell? ⟨gb313, 3, none⟩ = some (.string (⟨#[]⟩ : ByteArray)) := (blk_cell BK313.out 3).trans rfl; have hcz23_4 : w22.cell? ⟨gb313, 4, none⟩ = some (.int .i64 (wrap64 (1 + t311))) := (blk_cell BK313.out 4).trans rfl; have hfz23_0 := blk_frozen BK313.out 0; have hfz23_1 := blk_frozen BK313.out 1; have hfz23_2 := blk_frozen BK313.out 2; have hfz23_3 := blk_frozen BK313.out 3; have hfz23_4 := blk_frozen BK313.out 4))
   go_meet
   case rel => exact ⟨_, (t317), (2), (0), (t316), H', ⟨z_23⟩, ⟨by (with_reducible repeat (first | refine blk_drewN ?_ _ | refine blk_drew ?_ | refine blk_alloc ?_ _)); refine blk_far ?_ NB306_313.out _; (with_reducible repeat (first | refine blk_drewN ?_ _ | refine blk_drew ?_ | refine blk_alloc ?_ _)); exact BK306.out⟩, ⟨by (with_reducible repeat (first | refine blk_drewN ?_ _ | refine blk_drew ?_ | refine blk_alloc ?_ _)); refine blk_put (cs := #[.string t307, .int .i64 2, .int .i64 0, .string (⟨#[]⟩ : ByteArray), .int .i64 (wrap64 (1 + t311))]) ?_ 3 _ rfl; (with_reducible repeat (first | refine blk_drewN ?_ _ | refine blk_drew ?_ | refine blk_alloc ?_ _)); exact BK313.out⟩, ⟨z_106⟩, ⟨z_108⟩, ⟨z_107⟩⟩
  ·rw [if_neg c17] at H
   have c17b0 : (t314 == 0) = false := beq_eq_false_iff_ne.mpr c17
   have c17b1 : (t314 != 0) = true := bne_iff_ne.mpr c17
   (first | rw [c17b0] | (simp only [i64_w, i32_w]; rw [c17b0]) | skip)
   have H' := Aside0.mk H
   clear H
   go_wp2
   go_meet
   case rel => exact ⟨_, (t315), (1), (t309), ((⟨#[]⟩ : ByteArray)), H', ⟨z_23⟩, ⟨z_103⟩, ⟨z_109⟩, ⟨z_106⟩, ⟨z_108⟩, ⟨z_107⟩⟩
 case rest =>
  clear HC7
  try clear c1
  try clear c2
  try clear p2
  try clear c5
  try clear c6
  try clear p6
  try clear c13
  try clear c14
  try clear c17
  try clear c17b0
  try clear c17b1
  try clear c19
  try clear c20
  try clear hcz15_0
  try clear hcz15_1
  try clear hcz15_2
  try clear hcz15_3
  try clear hcz15_4
  try clear hcz21_0
  try clear hcz21_1
  try clear hcz21_2
  try clear hcz21_3
  try clear hcz21_4
  try clear hcz23_0
  try clear hcz23_1
  try clear hcz23_2
  try clear hcz23_3
  try clear hcz23_4
  try clear hfz15_0
  try clear hfz15_1
  try clear hfz15_2
  try clear hfz15_3
  try clear hfz15_4
  try clear hfz21_0
  try clear hfz21_1
  try clear hfz21_2
  try clear hfz21_3
  try clear hfz21_4
  try clear hfz23_0
  try clear hfz23_1
  try clear hfz23_2
  try clear hfz23_3
  try clear hfz23_4
  obtain ⟨kq, x1001_6, x314001_6, x314002_6, x314003_6, HA, HJ6, BK306, BK313, HI0, HK, HB⟩ := hcut
  cases kq with
  | zero => exact absurd HA.out (by simp [spec_l20Name.j0])
  | succ kj6 =>
   have H := HA.out
   clear HA
   simp only [spec_l20Name.j0] at H
   replace H := Option.bind_eq_some_iff.mp H
   obtain ⟨⟨t318, t319⟩, A240, H⟩ := H
   replace H : (if t318 = true then ((spec_l20Rd_pick.f kj6 s0_0 t319 4).bind fun bt320 => (if bt320.1 = 0 then ((some (([(⟨#[]⟩ : ByteArray), (⟨#[65]⟩ : ByteArray), (⟨#[97, 98, 99, 100, 101, 102, 103, 104, 105, 106, 107, 108, 109]⟩ : ByteArray)] : List ByteArray) : List ByteArray)).bind fun y322 => ((spec_l20Rd_pick.f kj6 s0_0 bt320.2 3).bind fun bt325 => (if 0 ≤ bt325.1 then (if bt325.1 < (y322.length : Int) then (some (rdOf ByteArray.empty y322 bt325.1, x314001_6, x314002_6, x314003_6, (wrap64 (1 + t311)), bt325.2)) else (none)) else (none)))) else (if bt320.1 = 1 then ((spec_l20Rd_pick.f kj6 s0_0 bt320.2 2).bind fun bt328 => (some (t307, x314001_6, x314002_6, x314003_6, wrap64 (bt328.1 * 51), bt328.2))) else (if bt320.1 = 2 then ((spec_l20Rd_pick.f kj6 s0_0 bt320.2 5).bind fun bt330 => (some (t307, bt330.1, x314002_6, x314003_6, (wrap64 (1 + t311)), bt330.2))) else (some (t307, x314001_6, x314002_6, (⟨#[120, 32, 121]⟩ : ByteArray), (wrap64 (1 + t311)), bt320.2)))))) else (some (t307, x314001_6, x314002_6, x314003_6, (wrap64 (1 + t311)), t319))) = some (r1, r2, r3, r4, r5, r6) := H
   have A24 := Aside0.mk A240
   clear A240
   by_cases c25 : t318 = true
   ·subst c25
    rw [if_pos rfl] at H
    replace H := Option.bind_eq_some_iff.mp H
    obtain ⟨⟨t320, t321⟩, A260, H⟩ := H
    replace H : (if t320 = 0 then ((some (([(⟨#[]⟩ : ByteArray), (⟨#[65]⟩ : ByteArray), (⟨#[97, 98, 99, 100, 101, 102, 103, 104, 105, 106, 107, 108, 109]⟩ : ByteArray)] : List ByteArray) : List ByteArray)).bind fun y322 => ((spec_l20Rd_pick.f kj6 s0_0 t321 3).bind fun bt325 => (if 0 ≤ bt325.1 then (if bt325.1 < (y322.length : Int) then (some (rdOf ByteArray.empty y322 bt325.1, x314001_6, x314002_6, x314003_6, (wrap64 (1 + t311)), bt325.2)) else (none)) else (none)))) else (if t320 = 1 then ((spec_l20Rd_pick.f kj6 s0_0 t321 2).bind fun bt328 => (some (t307, x314001_6, x314002_6, x314003_6, wrap64 (bt328.1 * 51), bt328.2))) else (if t320 = 2 then ((spec_l20Rd_pick.f kj6 s0_0 t321 5).bind fun bt330 => (some (t307, bt330.1, x314002_6, x314003_6, (wrap64 (1 + t311)), bt330.2))) else (some (t307, x314001_6, x314002_6, (⟨#[120, 32, 121]⟩ : ByteArray), (wrap64 (1 + t311)), t321))))) = some (r1, r2, r3, r4, r5, r6) := H
    have A26 := Aside0.mk A260
    clear A260
    by_cases c27 : t320 = 0
    ·rw [if_pos c27] at H
     have c27b0 : (t320 == 0) = true := beq_iff_eq.mpr c27
     have c27b1 : (t320 != 0) = false := bne_eq_false_iff_eq.mpr c27
     clear c27
     obtain ⟨y322, hy322⟩ : ∃ y_ : List ByteArray, y_ = (([(⟨#[]⟩ : ByteArray), (⟨#[65]⟩ : ByteArray), (⟨#[97, 98, 99, 100, 101, 102, 103, 104, 105, 106, 107, 108, 109]⟩ : ByteArray)] : List ByteArray)) := ⟨_, rfl⟩
     replace H : ((spec_l20Rd_pick.f kj6 s0_0 t321 3).bind fun bt325 => (if 0 ≤ bt325.1 then (if bt325.1 < (y322.length : Int) then (some (rdOf ByteArray.empty y322 bt325.1, x314001_6, x314002_6, x314003_6, (wrap64 (1 + t311)), bt325.2)) else (none)) else (none))) = some (r1, r2, r3, r4, r5, r6) := by first | (rw [hy322]; with_reducible exact H) | (have H2_ := (Option.bind_some _ _).symm.trans H; rw [hy322]; with_reducible exact H2_) | (have H2_ := (Option.bind_some _ _).symm.trans H; with_reducible exact H2_) | with_reducible exact H | (rw [hy322]; exact H) | exact H
     have Ny322 := Aside0.mk hy322
     clear hy322
     replace H := Option.bind_eq_some_iff.mp H
     obtain ⟨⟨t325, t326⟩, A280, H⟩ := H
     replace H : (if 0 ≤ t325 then (if t325 < (y322.length : Int) then (some (rdOf ByteArray.empty y322 t325, x314001_6, x314002_6, x314003_6, (wrap64 (1 + t311)), t326)) else (none)) else (none)) = some (r1, r2, r3, r4, r5, r6) := H
     have A28 := Aside0.mk A280
     clear A280
     by_cases c29 : 0 ≤ t325
     ·rw [if_pos c29] at H
      have c29b0 : decide (0 ≤ t325) = true := decide_eq_true c29
      clear c29
      by_cases c30 : t325 < (y322.length : Int)
      ·rw [if_pos c30] at H
       have c30b0 : decide (t325 < (y322.length : Int)) = true := decide_eq_true c30
       clear c30
       simp only [Option.some.injEq, Prod.mk.injEq] at H
       obtain ⟨rfl, rfl, rfl, rfl, rfl, rfl⟩ := H
       go_wp2_with (first | ((with_reducible refine gate_callee (f := 78) rfl ?_); refine goesL_ (some 24) rfl rfl Try.func78 (z_0) rfl #[.pointer (some ⟨g, 0, none⟩), .int .i64 a1] rfl (z_14) ?_; (with_reducible refine (spec_l20Rd_odd.calls kj6 g s0_0 x1001_6 a1 true t319 w0 _ ?side1 ?side2 A24.out).mono ?_); (case side1 => exact z_106); (case side2 => exact z_107); rintro e w31 ⟨rfl, hi, hb, hk⟩; refine ⟨_, rfl, ?_⟩; have n0_ := Aside0.mk (KeepBut.blk hk (g' := gb306) (o := .cells #[.string (⟨#[]⟩ : ByteArray), .int .i64 0, .int .i64 0, .string (⟨#[]⟩ : ByteArray), .int .i64 0] 26 (0, 0)) (z_103) NB306_0.out (z_12)); have n1_ := Aside0.mk (KeepBut.blk hk (g' := gb313) (o := .cells #[.string t307, .int .i64 x314001_6, .int .i64 x314002_6, .string x314003_6, .int .i64 (wrap64 (1 + t311))] 26 (0, 0)) (z_109) NB313_0.out (z_12)); have n2_ := Aside0.mk (KeepBut.trans (z_108) hk (.inl rfl)); have n3_ := Aside0.mk (hb); have n4_ := Aside0.mk (hi); clear BK306; clear BK313; clear HK; clear HB; clear HI0; have BK306 := n0_; have BK313 := n1_; have HK := n2_; have HB := n3_; have HI0 := n4_; clear n0_ n1_ n2_ n3_ n4_; (try clear hb); (try clear hb2); (try clear hk); (try clear hi)) | ((with_reducible refine gate_callee (f := 69) rfl ?_); refine goesL_ (some 26) rfl rfl Try.func69 (z_0) rfl #[.pointer (some ⟨g, 0, none⟩), .int .i64 4] rfl (z_14) ?_; (with_reducible refine (spec_l20Rd_pick.calls kj6 g s0_0 t319 4 t320 t321 w0 _ ?side1 ?side2 A26.out).mono ?_); (case side1 => exact z_106); (case side2 => exact z_107); rintro e w32 ⟨rfl, hi, hb, hk⟩; refine ⟨_, rfl, ?_⟩; have n0_ := Aside0.mk (KeepBut.blk hk (g' := gb306) (o := .cells #[.string (⟨#[]⟩ : ByteArray), .int .i64 0, .int .i64 0, .string (⟨#[]⟩ : ByteArray), .int .i64 0] 26 (0, 0)) (z_103) NB306_0.out (z_12)); have n1_ := Aside0.mk (KeepBut.blk hk (g' := gb313) (o := .cells #[.string t307, .int .i64 x314001_6, .int .i64 x314002_6, .string x314003_6, .int .i64 (wrap64 (1 + t311))] 26 (0, 0)) (z_109) NB313_0.out (z_12)); have n2_ := Aside0.mk (KeepBut.trans (z_108) hk (.inl rfl)); have n3_ := Aside0.mk (hb); have n4_ := Aside0.mk (hi); clear BK306; clear BK313; clear HK; clear HB; clear HI0; have BK306 := n0_; have BK313 := n1_; have HK := n2_; have HB := n3_; have HI0 := n4_; clear n0_ n1_ n2_ n3_ n4_; (try clear hb); (try clear hb2); (try clear hk); (try clear hi)) | ((with_reducible refine gate_dst (N := 30) rfl ?_); refine Kd.R_lit Kd.string _ 9 ?hg (N := 30) ?hd (xs := ([(⟨#[]⟩ : ByteArray), (⟨#[65]⟩ : ByteArray), (⟨#[97, 98, 99, 100, 101, 102, 103, 104, 105, 106, 107, 108, 109]⟩ : ByteArray)] : List ByteArray)) (inner := [.string (⟨#[]⟩ : ByteArray), .string (⟨#[65]⟩ : ByteArray), .string (⟨#[97, 98, 99, 100, 101, 102, 103, 104, 105, 106, 107, 108, 109]⟩ : ByteArray)]) (ok := fun _ => True) (okp := fun _ => True) ?hr ?hp (fun _ hk => hk) trivial (Below.refl _ _) (Nat.le_refl _) (z_12) ?_; (case hd => rfl); (case hg => rfl); (case hr => exact z_9); (case hp => exact (Reps.one (show Kd.M Kd.string _ _ _ (⟨#[]⟩ : ByteArray) [.string (⟨#[]⟩ : ByteArray)] from rfl) (Reps.one (show Kd.M Kd.string _ _ _ (⟨#[65]⟩ : ByteArray) [.string (⟨#[65]⟩ : ByteArray)] from rfl) (Reps.one (show Kd.M Kd.string _ _ _ (⟨#[97, 98, 99, 100, 101, 102, 103, 104, 105, 106, 107, 108, 109]⟩ : ByteArray) [.string (⟨#[97, 98, 99, 100, 101, 102, 103, 104, 105, 106, 107, 108, 109]⟩ : ByteArray)] from rfl) (Reps.none _ _))))); intro v323 w33 ho34 hb hg_ hnew_; clear hg_ hnew_; (first | rw [← Ny322.out] at ho34 | (simp only [Int.reduceToNat] at ho34; rw [← Ny322.out] at ho34)); have n0_ := Aside0.mk (Kd.R_lower ho34 (keep_size (w := w) (g := g) (row := none) (z_108))); have n1_ := Aside0.mk (blk_below (g := gb306) (o := .cells #[.string (⟨#[]⟩ : ByteArray), .int .i64 0, .int .i64 0, .string (⟨#[]⟩ : ByteArray), .int .i64 0] 26 (0, 0)) (z_103) hb); have n2_ := Aside0.mk (blk_below (g := gb313) (o := .cells #[.string t307, .int .i64 x314001_6, .int .i64 x314002_6, .string x314003_6, .int .i64 (wrap64 (1 + t311))] 26 (0, 0)) (z_109) hb); have n3_ := Aside0.mk (IsS96.below (z_106) hb); have n4_ := Aside0.mk (KeepBut.trans (z_108) (KeepBut.of_below hb g none) (.inl rfl)); have n5_ := Aside0.mk (below_step (z_107) hb); clear BK306; clear BK313; clear HI0; clear HK; clear HB; have HO324 := n0_; have BK306 := n1_; have BK313 := n2_; have HI0 := n3_; have HK := n4_; have HB := n5_; clear n0_ n1_ n2_ n3_ n4_ n5_; clear hb ho34) | ((with_reducible refine gate_callee (f := 69) rfl ?_); refine goesL_ (some 32) rfl rfl Try.func69 (z_0) rfl #[.pointer (some ⟨g, 0, none⟩), .int .i64 3] rfl (z_14) ?_; (with_reducible refine (spec_l20Rd_pick.calls kj6 g s0_0 t321 3 t325 t326 w0 _ ?side1 ?side2 A28.out).mono ?_); (case side1 => exact z_106); (case side2 => exact z_107); rintro e w35 ⟨rfl, hi, hb, hk⟩; refine ⟨_, rfl, ?_⟩; have n0_ := Aside0.mk (KeepBut.blk hk (g' := gb306) (o := .cells #[.string (⟨#[]⟩ : ByteArray), .int .i64 0, .int .i64 0, .string (⟨#[]⟩ : ByteArray), .int .i64 0] 26 (0, 0)) (z_103) NB306_0.out (z_12)); have n1_ := Aside0.mk (KeepBut.blk hk (g' := gb313) (o := .cells #[.string t307, .int .i64 x314001_6, .int .i64 x314002_6, .string x314003_6, .int .i64 (wrap64 (1 + t311))] 26 (0, 0)) (z_109) NB313_0.out (z_12)); have n2_ := Aside0.mk (Kd.R_mono (Kd.R_keep (IsS96.apart (show IsS96 w0 _ g s0_0 t321 from z_106) (by (with_reducible repeat (first | apply Kd.R_alloc | apply Kd.R_drewN | apply Kd.R_drew)); exact HO324.out) (z_5)) hk (fun _ h => h.2)) (fun _ h => h.1)); have n3_ := Aside0.mk (KeepBut.trans (z_108) hk (.inl rfl)); have n4_ := Aside0.mk (hb); have n5_ := Aside0.mk (hi); clear BK306; clear BK313; clear HO324; clear HK; clear HB; clear HI0; have BK306 := n0_; have BK313 := n1_; have HO324 := n2_; have HK := n3_; have HB := n4_; have HI0 := n5_; clear n0_ n1_ n2_ n3_ n4_ n5_; (try clear hb); (try clear hb2); (try clear hk); (try clear hi); obtain ⟨Ao36, co36, eo36⟩ := Kd.R_slice HO324.out; subst eo36; have p327 : 0 ≤ (t325 : Int) := of_decide_eq_true (z_7); have q327 : t325 < (y322.length : Int) := of_decide_eq_true (z_7); obtain ⟨ad327, e327, hx327_0⟩ := Kd.at_string (Kd.R_reads' HO324.out).2.2 t325 p327 q327; cases e327; replace p327 := eq_true p327; replace q327 := eq_true q327; have hnb37 := NB313_306.out; have hnc37 := NB306_313.out; have hnb38 := NB313_0.out; have hnc38 := NB0_313.out; have hcz39_0 : w35.cell? ⟨gb313, 0, none⟩ = some (.string t307) := (blk_cell BK313.out 0).trans rfl; have hcz39_1 : w35.cell? ⟨gb313, 1, none⟩ = some (.int .i64 x314001_6) := (blk_cell BK313.out 1).trans rfl; have hcz39_2 : w35.cell? ⟨gb313, 2, none⟩ = some (.int .i64 x314002_6) := (blk_cell BK313.out 2).trans rfl; have hcz39_3 : w35.cell? ⟨gb313, 3, none⟩ = some (.string x314003_6) := (blk_cell BK313.out 3).trans rfl; have hcz39_4 : w35.cell? ⟨gb313, 4, none⟩ = some (.int .i64 (wrap64 (1 + t311))) := (blk_cell BK313.out 4).trans rfl; have hfz39_0 := blk_frozen BK313.out 0; have hfz39_1 := blk_frozen BK313.out 1; have hfz39_2 := blk_frozen BK313.out 2; have hfz39_3 := blk_frozen BK313.out 3; have hfz39_4 := blk_frozen BK313.out 4; have hnb40 := NB306_0.out; have hnc40 := NB0_306.out; have hcz41_0 : w35.cell? ⟨gb306, 0, none⟩ = some (.string (⟨#[]⟩ : ByteArray)) := (blk_cell BK306.out 0).trans rfl; have hcz41_1 : w35.cell? ⟨gb306, 1, none⟩ = some (.int .i64 0) := (blk_cell BK306.out 1).trans rfl; have hcz41_2 : w35.cell? ⟨gb306, 2, none⟩ = some (.int .i64 0) := (blk_cell BK306.out 2).trans rfl; have hcz41_3 : w35.cell? ⟨gb306, 3, none⟩ = some (.string (⟨#[]⟩ : ByteArray)) := (blk_cell BK306.out 3).trans rfl; have hcz41_4 : w35.cell? ⟨gb306, 4, none⟩ = some (.int .i64 0) := (blk_cell BK306.out 4).trans rfl; have hfz41_0 := blk_frozen BK306.out 0; have hfz41_1 := blk_frozen BK306.out 1; have hfz41_2 := blk_frozen BK306.out 2; have hfz41_3 := blk_frozen BK306.out 3; have hfz41_4 := blk_frozen BK306.out 4))
       refine bodyPost_ret (results_cell_row rfl _ _ gb306 26 #[.string (rdOf ByteArray.empty y322 t325), .int .i64 x314001_6, .int .i64 x314002_6, .string x314003_6, .int .i64 (wrap64 (1 + t311))] (0, 0) _ rfl (by (with_reducible repeat (first | refine blk_drewN ?_ _ | refine blk_drew ?_ | refine blk_alloc ?_ _)); refine blk_put (cs := #[.string (rdOf ByteArray.empty y322 t325), .int .i64 x314001_6, .int .i64 x314002_6, .string x314003_6, .int .i64 0]) ?_ 4 _ rfl; (with_reducible repeat (first | refine blk_drewN ?_ _ | refine blk_drew ?_ | refine blk_alloc ?_ _)); refine blk_put (cs := #[.string (rdOf ByteArray.empty y322 t325), .int .i64 x314001_6, .int .i64 x314002_6, .string (⟨#[]⟩ : ByteArray), .int .i64 0]) ?_ 3 _ rfl; (with_reducible repeat (first | refine blk_drewN ?_ _ | refine blk_drew ?_ | refine blk_alloc ?_ _)); refine blk_put (cs := #[.string (rdOf ByteArray.empty y322 t325), .int .i64 x314001_6, .int .i64 0, .string (⟨#[]⟩ : ByteArray), .int .i64 0]) ?_ 2 _ rfl; (with_reducible repeat (first | refine blk_drewN ?_ _ | refine blk_drew ?_ | refine blk_alloc ?_ _)); refine blk_put (cs := #[.string (rdOf ByteArray.empty y322 t325), .int .i64 0, .int .i64 0, .string (⟨#[]⟩ : ByteArray), .int .i64 0]) ?_ 1 _ rfl; (with_reducible repeat (first | refine blk_drewN ?_ _ | refine blk_drew ?_ | refine blk_alloc ?_ _)); refine blk_put (cs := #[.string (⟨#[]⟩ : ByteArray), .int .i64 0, .int .i64 0, .string (⟨#[]⟩ : ByteArray), .int .i64 0]) ?_ 0 _ rfl; (with_reducible repeat (first | refine blk_drewN ?_ _ | refine blk_drew ?_ | refine blk_alloc ?_ _)); refine blk_far ?_ NB306_313.out _; (with_reducible repeat (first | refine blk_drewN ?_ _ | refine blk_drew ?_ | refine blk_alloc ?_ _)); exact BK306.out) Try.underlying26 rfl (z_0)) rfl ?_
       exact ⟨z_13, z_106, z_107, z_108⟩
      ·rw [if_neg c30] at H
       exact absurd H (z_12)
     ·rw [if_neg c29] at H
      exact absurd H (z_12)
    ·rw [if_neg c27] at H
     have c27b0 : (t320 == 0) = false := beq_eq_false_iff_ne.mpr c27
     have c27b1 : (t320 != 0) = true := bne_iff_ne.mpr c27
     by_cases c42 : t320 = 1
     ·rw [if_pos c42] at H
      have c42b0 : (t320 == 1) = true := beq_iff_eq.mpr c42
      have c42b1 : (t320 != 1) = false := bne_eq_false_iff_eq.mpr c42
      clear c42
      replace H := Option.bind_eq_some_iff.mp H
      obtain ⟨⟨t328, t329⟩, A430, H⟩ := H
      replace H : (some (t307, x314001_6, x314002_6, x314003_6, wrap64 (t328 * 51), t329)) = some (r1, r2, r3, r4, r5, r6) := H
      have A43 := Aside0.mk A430
      clear A430
      simp only [Option.some.injEq, Prod.mk.injEq] at H
      obtain ⟨rfl, rfl, rfl, rfl, rfl, rfl⟩ := H
      go_wp2_with (first | ((with_reducible refine gate_callee (f := 78) rfl ?_); refine goesL_ (some 24) rfl rfl Try.func78 (z_0) rfl #[.pointer (some ⟨g, 0, none⟩), .int .i64 a1] rfl (z_14) ?_; (with_reducible refine (spec_l20Rd_odd.calls kj6 g s0_0 x1001_6 a1 true t319 w0 _ ?side1 ?side2 A24.out).mono ?_); (case side1 => exact z_106); (case side2 => exact z_107); rintro e w44 ⟨rfl, hi, hb, hk⟩; refine ⟨_, rfl, ?_⟩; have n0_ := Aside0.mk (KeepBut.blk hk (g' := gb306) (o := .cells #[.string (⟨#[]⟩ : ByteArray), .int .i64 0, .int .i64 0, .string (⟨#[]⟩ : ByteArray), .int .i64 0] 26 (0, 0)) (z_103) NB306_0.out (z_12)); have n1_ := Aside0.mk (KeepBut.blk hk (g' := gb313) (o := .cells #[.string t307, .int .i64 x314001_6, .int .i64 x314002_6, .string x314003_6, .int .i64 (wrap64 (1 + t311))] 26 (0, 0)) (z_109) NB313_0.out (z_12)); have n2_ := Aside0.mk (KeepBut.trans (z_108) hk (.inl rfl)); have n3_ := Aside0.mk (hb); have n4_ := Aside0.mk (hi); clear BK306; clear BK313; clear HK; clear HB; clear HI0; have BK306 := n0_; have BK313 := n1_; have HK := n2_; have HB := n3_; have HI0 := n4_; clear n0_ n1_ n2_ n3_ n4_; (try clear hb); (try clear hb2); (try clear hk); (try clear hi)) | ((with_reducible refine gate_callee (f := 69) rfl ?_); refine goesL_ (some 26) rfl rfl Try.func69 (z_0) rfl #[.pointer (some ⟨g, 0, none⟩), .int .i64 4] rfl (z_14) ?_; (with_reducible refine (spec_l20Rd_pick.calls kj6 g s0_0 t319 4 t320 t321 w0 _ ?side1 ?side2 A26.out).mono ?_); (case side1 => exact z_106); (case side2 => exact z_107); rintro e w45 ⟨rfl, hi, hb, hk⟩; refine ⟨_, rfl, ?_⟩; have n0_ := Aside0.mk (KeepBut.blk hk (g' := gb306) (o := .cells #[.string (⟨#[]⟩ : ByteArray), .int .i64 0, .int .i64 0, .string (⟨#[]⟩ : ByteArray), .int .i64 0] 26 (0, 0)) (z_103) NB306_0.out (z_12)); have n1_ := Aside0.mk (KeepBut.blk hk (g' := gb313) (o := .cells #[.string t307, .int .i64 x314001_6, .int .i64 x314002_6, .string x314003_6, .int .i64 (wrap64 (1 + t311))] 26 (0, 0)) (z_109) NB313_0.out (z_12)); have n2_ := Aside0.mk (KeepBut.trans (z_108) hk (.inl rfl)); have n3_ := Aside0.mk (hb); have n4_ := Aside0.mk (hi); clear BK306; clear BK313; clear HK; clear HB; clear HI0; have BK306 := n0_; have BK313 := n1_; have HK := n2_; have HB := n3_; have HI0 := n4_; clear n0_ n1_ n2_ n3_ n4_; (try clear hb); (try clear hb2); (try clear hk); (try clear hi)) | ((with_reducible refine gate_callee (f := 69) rfl ?_); refine goesL_ (some 39) rfl rfl Try.func69 (z_0) rfl #[.pointer (some ⟨g, 0, none⟩), .int .i64 2] rfl (z_14) ?_; (with_reducible refine (spec_l20Rd_pick.calls kj6 g s0_0 t321 2 t328 t329 w0 _ ?side1 ?side2 A43.out).mono ?_); (case side1 => exact z_106); (case side2 => exact z_107); rintro e w46 ⟨rfl, hi, hb, hk⟩; refine ⟨_, rfl, ?_⟩; have n0_ := Aside0.mk (KeepBut.blk hk (g' := gb306) (o := .cells #[.string (⟨#[]⟩ : ByteArray), .int .i64 0, .int .i64 0, .string (⟨#[]⟩ : ByteArray), .int .i64 0] 26 (0, 0)) (z_103) NB306_0.out (z_12)); have n1_ := Aside0.mk (KeepBut.blk hk (g' := gb313) (o := .cells #[.string t307, .int .i64 x314001_6, .int .i64 x314002_6, .string x314003_6, .int .i64 (wrap64 (1 + t311))] 26 (0, 0)) (z_109) NB313_0.out (z_12)); have n2_ := Aside0.mk (KeepBut.trans (z_108) hk (.inl rfl)); have n3_ := Aside0.mk (hb); have n4_ := Aside0.mk (hi); clear BK306; clear BK313; clear HK; clear HB; clear HI0; have BK306 := n0_; have BK313 := n1_; have HK := n2_; have HB := n3_; have HI0 := n4_; clear n0_ n1_ n2_ n3_ n4_; (try clear hb); (try clear hb2); (try clear hk); (try clear hi); have hnb47 := NB313_306.out; have hnc47 := NB306_313.out; have hnb48 := NB313_0.out; have hnc48 := NB0_313.out; have hcz49_0 : w46.cell? ⟨gb313, 0, none⟩ = some (.string t307) := (blk_cell BK313.out 0).trans rfl; have hcz49_1 : w46.cell? ⟨gb313, 1, none⟩ = some (.int .i64 x314001_6) := (blk_cell BK313.out 1).trans rfl; have hcz49_2 : w46.cell? ⟨gb313, 2, none⟩ = some (.int .i64 x314002_6) := (blk_cell BK313.out 2).trans rfl; have hcz49_3 : w46.cell? ⟨gb313, 3, none⟩ = some (.string x314003_6) := (blk_cell BK313.out 3).trans rfl; have hcz49_4 : w46.cell? ⟨gb313, 4, none⟩ = some (.int .i64 (wrap64 (1 + t311))) := (blk_cell BK313.out 4).trans rfl; have hfz49_0 := blk_frozen BK313.out 0; have hfz49_1 := blk_frozen BK313.out 1; have hfz49_2 := blk_frozen BK313.out 2; have hfz49_3 := blk_frozen BK313.out 3; have hfz49_4 := blk_frozen BK313.out 4; have hnb50 := NB306_0.out; have hnc50 := NB0_306.out; have hcz51_0 : w46.cell? ⟨gb306, 0, none⟩ = some (.string (⟨#[]⟩ : ByteArray)) := (blk_cell BK306.out 0).trans rfl; have hcz51_1 : w46.cell? ⟨gb306, 1, none⟩ = some (.int .i64 0) := (blk_cell BK306.out 1).trans rfl; have hcz51_2 : w46.cell? ⟨gb306, 2, none⟩ = some (.int .i64 0) := (blk_cell BK306.out 2).trans rfl; have hcz51_3 : w46.cell? ⟨gb306, 3, none⟩ = some (.string (⟨#[]⟩ : ByteArray)) := (blk_cell BK306.out 3).trans rfl; have hcz51_4 : w46.cell? ⟨gb306, 4, none⟩ = some (.int .i64 0) := (blk_cell BK306.out 4).trans rfl; have hfz51_0 := blk_frozen BK306.out 0; have hfz51_1 := blk_frozen BK306.out 1; have hfz51_2 := blk_frozen BK306.out 2; have hfz51_3 := blk_frozen BK306.out 3; have hfz51_4 := blk_frozen BK306.out 4))
      refine bodyPost_ret (results_cell_row rfl _ _ gb306 26 #[.string t307, .int .i64 x314001_6, .int .i64 x314002_6, .string x314003_6, .int .i64 (wrap64 (t328 * 51))] (0, 0) _ rfl (by (with_reducible repeat (first | refine blk_drewN ?_ _ | refine blk_drew ?_ | refine blk_alloc ?_ _)); refine blk_put (cs := #[.string t307, .int .i64 x314001_6, .int .i64 x314002_6, .string x314003_6, .int .i64 0]) ?_ 4 _ rfl; (with_reducible repeat (first | refine blk_drewN ?_ _ | refine blk_drew ?_ | refine blk_alloc ?_ _)); refine blk_put (cs := #[.string t307, .int .i64 x314001_6, .int .i64 x314002_6, .string (⟨#[]⟩ : ByteArray), .int .i64 0]) ?_ 3 _ rfl; (with_reducible repeat (first | refine blk_drewN ?_ _ | refine blk_drew ?_ | refine blk_alloc ?_ _)); refine blk_put (cs := #[.string t307, .int .i64 x314001_6, .int .i64 0, .string (⟨#[]⟩ : ByteArray), .int .i64 0]) ?_ 2 _ rfl; (with_reducible repeat (first | refine blk_drewN ?_ _ | refine blk_drew ?_ | refine blk_alloc ?_ _)); refine blk_put (cs := #[.string t307, .int .i64 0, .int .i64 0, .string (⟨#[]⟩ : ByteArray), .int .i64 0]) ?_ 1 _ rfl; (with_reducible repeat (first | refine blk_drewN ?_ _ | refine blk_drew ?_ | refine blk_alloc ?_ _)); refine blk_put (cs := #[.string (⟨#[]⟩ : ByteArray), .int .i64 0, .int .i64 0, .string (⟨#[]⟩ : ByteArray), .int .i64 0]) ?_ 0 _ rfl; (with_reducible repeat (first | refine blk_drewN ?_ _ | refine blk_drew ?_ | refine blk_alloc ?_ _)); refine blk_far ?_ NB306_313.out _; (with_reducible repeat (first | refine blk_drewN ?_ _ | refine blk_drew ?_ | refine blk_alloc ?_ _)); exact BK306.out) Try.underlying26 rfl (z_0)) rfl ?_
      exact ⟨z_13, z_106, z_107, z_108⟩
     ·rw [if_neg c42] at H
      have c42b0 : (t320 == 1) = false := beq_eq_false_iff_ne.mpr c42
      have c42b1 : (t320 != 1) = true := bne_iff_ne.mpr c42
      by_cases c52 : t320 = 2
      ·rw [if_pos c52] at H
       have c52b0 : (t320 == 2) = true := beq_iff_eq.mpr c52
       have c52b1 : (t320 != 2) = false := bne_eq_false_iff_eq.mpr c52
       clear c52
       replace H := Option.bind_eq_some_iff.mp H
       obtain ⟨⟨t330, t331⟩, A530, H⟩ := H
       replace H : (some (t307, t330, x314002_6, x314003_6, (wrap64 (1 + t311)), t331)) = some (r1, r2, r3, r4, r5, r6) := H
       have A53 := Aside0.mk A530
       clear A530
       simp only [Option.some.injEq, Prod.mk.injEq] at H
       obtain ⟨rfl, rfl, rfl, rfl, rfl, rfl⟩ := H
       go_wp2_with (first | ((with_reducible refine gate_callee (f := 78) rfl ?_); refine goesL_ (some 24) rfl rfl Try.func78 (z_0) rfl #[.pointer (some ⟨g, 0, none⟩), .int .i64 a1] rfl (z_14) ?_; (with_reducible refine (spec_l20Rd_odd.calls kj6 g s0_0 x1001_6 a1 true t319 w0 _ ?side1 ?side2 A24.out).mono ?_); (case side1 => exact z_106); (case side2 => exact z_107); rintro e w54 ⟨rfl, hi, hb, hk⟩; refine ⟨_, rfl, ?_⟩; have n0_ := Aside0.mk (KeepBut.blk hk (g' := gb306) (o := .cells #[.string (⟨#[]⟩ : ByteArray), .int .i64 0, .int .i64 0, .string (⟨#[]⟩ : ByteArray), .int .i64 0] 26 (0, 0)) (z_103) NB306_0.out (z_12)); have n1_ := Aside0.mk (KeepBut.blk hk (g' := gb313) (o := .cells #[.string t307, .int .i64 x314001_6, .int .i64 x314002_6, .string x314003_6, .int .i64 (wrap64 (1 + t311))] 26 (0, 0)) (z_109) NB313_0.out (z_12)); have n2_ := Aside0.mk (KeepBut.trans (z_108) hk (.inl rfl)); have n3_ := Aside0.mk (hb); have n4_ := Aside0.mk (hi); clear BK306; clear BK313; clear HK; clear HB; clear HI0; have BK306 := n0_; have BK313 := n1_; have HK := n2_; have HB := n3_; have HI0 := n4_; clear n0_ n1_ n2_ n3_ n4_; (try clear hb); (try clear hb2); (try clear hk); (try clear hi)) | ((with_reducible refine gate_callee (f := 69) rfl ?_); refine goesL_ (some 26) rfl rfl Try.func69 (z_0) rfl #[.pointer (some ⟨g, 0, none⟩), .int .i64 4] rfl (z_14) ?_; (with_reducible refine (spec_l20Rd_pick.calls kj6 g s0_0 t319 4 t320 t321 w0 _ ?side1 ?side2 A26.out).mono ?_); (case side1 => exact z_106); (case side2 => exact z_107); rintro e w55 ⟨rfl, hi, hb, hk⟩; refine ⟨_, rfl, ?_⟩; have n0_ := Aside0.mk (KeepBut.blk hk (g' := gb306) (o := .cells #[.string (⟨#[]⟩ : ByteArray), .int .i64 0, .int .i64 0, .string (⟨#[]⟩ : ByteArray), .int .i64 0] 26 (0, 0)) (z_103) NB306_0.out (z_12)); have n1_ := Aside0.mk (KeepBut.blk hk (g' := gb313) (o := .cells #[.string t307, .int .i64 x314001_6, .int .i64 x314002_6, .string x314003_6, .int .i64 (wrap64 (1 + t311))] 26 (0, 0)) (z_109) NB313_0.out (z_12)); have n2_ := Aside0.mk (KeepBut.trans (z_108) hk (.inl rfl)); have n3_ := Aside0.mk (hb); have n4_ := Aside0.mk (hi); clear BK306; clear BK313; clear HK; clear HB; clear HI0; have BK306 := n0_; have BK313 := n1_; have HK := n2_; have HB := n3_; have HI0 := n4_; clear n0_ n1_ n2_ n3_ n4_; (try clear hb); (try clear hb2); (try clear hk); (try clear hi)) | ((with_reducible refine gate_callee (f := 69) rfl ?_); refine goesL_ (some 45) rfl rfl Try.func69 (z_0) rfl #[.pointer (some ⟨g, 0, none⟩), .int .i64 5] rfl (z_14) ?_; (with_reducible refine (spec_l20Rd_pick.calls kj6 g s0_0 t321 5 t330 t331 w0 _ ?side1 ?side2 A53.out).mono ?_); (case side1 => exact z_106); (case side2 => exact z_107); rintro e w56 ⟨rfl, hi, hb, hk⟩; refine ⟨_, rfl, ?_⟩; have n0_ := Aside0.mk (KeepBut.blk hk (g' := gb306) (o := .cells #[.string (⟨#[]⟩ : ByteArray), .int .i64 0, .int .i64 0, .string (⟨#[]⟩ : ByteArray), .int .i64 0] 26 (0, 0)) (z_103) NB306_0.out (z_12)); have n1_ := Aside0.mk (KeepBut.blk hk (g' := gb313) (o := .cells #[.string t307, .int .i64 x314001_6, .int .i64 x314002_6, .string x314003_6, .int .i64 (wrap64 (1 + t311))] 26 (0, 0)) (z_109) NB313_0.out (z_12)); have n2_ := Aside0.mk (KeepBut.trans (z_108) hk (.inl rfl)); have n3_ := Aside0.mk (hb); have n4_ := Aside0.mk (hi); clear BK306; clear BK313; clear HK; clear HB; clear HI0; have BK306 := n0_; have BK313 := n1_; have HK := n2_; have HB := n3_; have HI0 := n4_; clear n0_ n1_ n2_ n3_ n4_; (try clear hb); (try clear hb2); (try clear hk); (try clear hi); have hnb57 := NB313_306.out; have hnc57 := NB306_313.out; have hnb58 := NB313_0.out; have hnc58 := NB0_313.out; have hcz59_0 : w56.cell? ⟨gb313, 0, none⟩ = some (.string t307) := (blk_cell BK313.out 0).trans rfl; have hcz59_1 : w56.cell? ⟨gb313, 1, none⟩ = some (.int .i64 x314001_6) := (blk_cell BK313.out 1).trans rfl; have hcz59_2 : w56.cell? ⟨gb313, 2, none⟩ = some (.int .i64 x314002_6) := (blk_cell BK313.out 2).trans rfl; have hcz59_3 : w56.cell? ⟨gb313, 3, none⟩ = some (.string x314003_6) := (blk_cell BK313.out 3).trans rfl; have hcz59_4 : w56.cell? ⟨gb313, 4, none⟩ = some (.int .i64 (wrap64 (1 + t311))) := (blk_cell BK313.out 4).trans rfl; have hfz59_0 := blk_frozen BK313.out 0; have hfz59_1 := blk_frozen BK313.out 1; have hfz59_2 := blk_frozen BK313.out 2; have hfz59_3 := blk_frozen BK313.out 3; have hfz59_4 := blk_frozen BK313.out 4; have hnb60 := NB306_0.out; have hnc60 := NB0_306.out; have hcz61_0 : w56.cell? ⟨gb306, 0, none⟩ = some (.string (⟨#[]⟩ : ByteArray)) := (blk_cell BK306.out 0).trans rfl; have hcz61_1 : w56.cell? ⟨gb306, 1, none⟩ = some (.int .i64 0) := (blk_cell BK306.out 1).trans rfl; have hcz61_2 : w56.cell? ⟨gb306, 2, none⟩ = some (.int .i64 0) := (blk_cell BK306.out 2).trans rfl; have hcz61_3 : w56.cell? ⟨gb306, 3, none⟩ = some (.string (⟨#[]⟩ : ByteArray)) := (blk_cell BK306.out 3).trans rfl; have hcz61_4 : w56.cell? ⟨gb306, 4, none⟩ = some (.int .i64 0) := (blk_cell BK306.out 4).trans rfl; have hfz61_0 := blk_frozen BK306.out 0; have hfz61_1 := blk_frozen BK306.out 1; have hfz61_2 := blk_frozen BK306.out 2; have hfz61_3 := blk_frozen BK306.out 3; have hfz61_4 := blk_frozen BK306.out 4))
       refine bodyPost_ret (results_cell_row rfl _ _ gb306 26 #[.string t307, .int .i64 t330, .int .i64 x314002_6, .string x314003_6, .int .i64 (wrap64 (1 + t311))] (0, 0) _ rfl (by (with_reducible repeat (first | refine blk_drewN ?_ _ | refine blk_drew ?_ | refine blk_alloc ?_ _)); refine blk_put (cs := #[.string t307, .int .i64 t330, .int .i64 x314002_6, .string x314003_6, .int .i64 0]) ?_ 4 _ rfl; (with_reducible repeat (first | refine blk_drewN ?_ _ | refine blk_drew ?_ | refine blk_alloc ?_ _)); refine blk_put (cs := #[.string t307, .int .i64 t330, .int .i64 x314002_6, .string (⟨#[]⟩ : ByteArray), .int .i64 0]) ?_ 3 _ rfl; (with_reducible repeat (first | refine blk_drewN ?_ _ | refine blk_drew ?_ | refine blk_alloc ?_ _)); refine blk_put (cs := #[.string t307, .int .i64 t330, .int .i64 0, .string (⟨#[]⟩ : ByteArray), .int .i64 0]) ?_ 2 _ rfl; (with_reducible repeat (first | refine blk_drewN ?_ _ | refine blk_drew ?_ | refine blk_alloc ?_ _)); refine blk_put (cs := #[.string t307, .int .i64 0, .int .i64 0, .string (⟨#[]⟩ : ByteArray), .int .i64 0]) ?_ 1 _ rfl; (with_reducible repeat (first | refine blk_drewN ?_ _ | refine blk_drew ?_ | refine blk_alloc ?_ _)); refine blk_put (cs := #[.string (⟨#[]⟩ : ByteArray), .int .i64 0, .int .i64 0, .string (⟨#[]⟩ : ByteArray), .int .i64 0]) ?_ 0 _ rfl; (with_reducible repeat (first | refine blk_drewN ?_ _ | refine blk_drew ?_ | refine blk_alloc ?_ _)); refine blk_far ?_ NB306_313.out _; (with_reducible repeat (first | refine blk_drewN ?_ _ | refine blk_drew ?_ | refine blk_alloc ?_ _)); exact BK306.out) Try.underlying26 rfl (z_0)) rfl ?_
       exact ⟨z_13, z_106, z_107, z_108⟩
      ·rw [if_neg c52] at H
       have c52b0 : (t320 == 2) = false := beq_eq_false_iff_ne.mpr c52
       have c52b1 : (t320 != 2) = true := bne_iff_ne.mpr c52
       simp only [Option.some.injEq, Prod.mk.injEq] at H
       obtain ⟨rfl, rfl, rfl, rfl, rfl, rfl⟩ := H
       go_wp2_with (first | ((with_reducible refine gate_callee (f := 78) rfl ?_); refine goesL_ (some 24) rfl rfl Try.func78 (z_0) rfl #[.pointer (some ⟨g, 0, none⟩), .int .i64 a1] rfl (z_14) ?_; (with_reducible refine (spec_l20Rd_odd.calls kj6 g s0_0 x1001_6 a1 true t319 w0 _ ?side1 ?side2 A24.out).mono ?_); (case side1 => exact z_106); (case side2 => exact z_107); rintro e w62 ⟨rfl, hi, hb, hk⟩; refine ⟨_, rfl, ?_⟩; have n0_ := Aside0.mk (KeepBut.blk hk (g' := gb306) (o := .cells #[.string (⟨#[]⟩ : ByteArray), .int .i64 0, .int .i64 0, .string (⟨#[]⟩ : ByteArray), .int .i64 0] 26 (0, 0)) (z_103) NB306_0.out (z_12)); have n1_ := Aside0.mk (KeepBut.blk hk (g' := gb313) (o := .cells #[.string t307, .int .i64 x314001_6, .int .i64 x314002_6, .string x314003_6, .int .i64 (wrap64 (1 + t311))] 26 (0, 0)) (z_109) NB313_0.out (z_12)); have n2_ := Aside0.mk (KeepBut.trans (z_108) hk (.inl rfl)); have n3_ := Aside0.mk (hb); have n4_ := Aside0.mk (hi); clear BK306; clear BK313; clear HK; clear HB; clear HI0; have BK306 := n0_; have BK313 := n1_; have HK := n2_; have HB := n3_; have HI0 := n4_; clear n0_ n1_ n2_ n3_ n4_; (try clear hb); (try clear hb2); (try clear hk); (try clear hi)) | ((with_reducible refine gate_callee (f := 69) rfl ?_); refine goesL_ (some 26) rfl rfl Try.func69 (z_0) rfl #[.pointer (some ⟨g, 0, none⟩), .int .i64 4] rfl (z_14) ?_; (with_reducible refine (spec_l20Rd_pick.calls kj6 g s0_0 t319 4 t320 t321 w0 _ ?side1 ?side2 A26.out).mono ?_); (case side1 => exact z_106); (case side2 => exact z_107); rintro e w63 ⟨rfl, hi, hb, hk⟩; refine ⟨_, rfl, ?_⟩; have n0_ := Aside0.mk (KeepBut.blk hk (g' := gb306) (o := .cells #[.string (⟨#[]⟩ : ByteArray), .int .i64 0, .int .i64 0, .string (⟨#[]⟩ : ByteArray), .int .i64 0] 26 (0, 0)) (z_103) NB306_0.out (z_12)); have n1_ := Aside0.mk (KeepBut.blk hk (g' := gb313) (o := .cells #[.string t307, .int .i64 x314001_6, .int .i64 x314002_6, .string x314003_6, .int .i64 (wrap64 (1 + t311))] 26 (0, 0)) (z_109) NB313_0.out (z_12)); have n2_ := Aside0.mk (KeepBut.trans (z_108) hk (.inl rfl)); have n3_ := Aside0.mk (hb); have n4_ := Aside0.mk (hi); clear BK306; clear BK313; clear HK; clear HB; clear HI0; have BK306 := n0_; have BK313 := n1_; have HK := n2_; have HB := n3_; have HI0 := n4_; clear n0_ n1_ n2_ n3_ n4_; (try clear hb); (try clear hb2); (try clear hk); (try clear hi); have hnb64 := NB313_306.out; have hnc64 := NB306_313.out; have hnb65 := NB313_0.out; have hnc65 := NB0_313.out; have hcz66_0 : w63.cell? ⟨gb313, 0, none⟩ = some (.string t307) := (blk_cell BK313.out 0).trans rfl; have hcz66_1 : w63.cell? ⟨gb313, 1, none⟩ = some (.int .i64 x314001_6) := (blk_cell BK313.out 1).trans rfl; have hcz66_2 : w63.cell? ⟨gb313, 2, none⟩ = some (.int .i64 x314002_6) := (blk_cell BK313.out 2).trans rfl; have hcz66_3 : w63.cell? ⟨gb313, 3, none⟩ = some (.string x314003_6) := (blk_cell BK313.out 3).trans rfl; have hcz66_4 : w63.cell? ⟨gb313, 4, none⟩ = some (.int .i64 (wrap64 (1 + t311))) := (blk_cell BK313.out 4).trans rfl; have hfz66_0 := blk_frozen BK313.out 0; have hfz66_1 := blk_frozen BK313.out 1; have hfz66_2 := blk_frozen BK313.out 2; have hfz66_3 := blk_frozen BK313.out 3; have hfz66_4 := blk_frozen BK313.out 4; have hnb67 := NB306_0.out; have hnc67 := NB0_306.out; have hcz68_0 : w63.cell? ⟨gb306, 0, none⟩ = some (.string (⟨#[]⟩ : ByteArray)) := (blk_cell BK306.out 0).trans rfl; have hcz68_1 : w63.cell? ⟨gb306, 1, none⟩ = some (.int .i64 0) := (blk_cell BK306.out 1).trans rfl; have hcz68_2 : w63.cell? ⟨gb306, 2, none⟩ = some (.int .i64 0) := (blk_cell BK306.out 2).trans rfl; have hcz68_3 : w63.cell? ⟨gb306, 3, none⟩ = some (.string (⟨#[]⟩ : ByteArray)) := (blk_cell BK306.out 3).trans rfl; have hcz68_4 : w63.cell? ⟨gb306, 4, none⟩ = some (.int .i64 0) := (blk_cell BK306.out 4).trans rfl; have hfz68_0 := blk_frozen BK306.out 0; have hfz68_1 := blk_frozen BK306.out 1; have hfz68_2 := blk_frozen BK306.out 2; have hfz68_3 := blk_frozen BK306.out 3; have hfz68_4 := blk_frozen BK306.out 4))
       refine bodyPost_ret (results_cell_row rfl _ _ gb306 26 #[.string t307, .int .i64 x314001_6, .int .i64 x314002_6, .string (⟨#[120, 32, 121]⟩ : ByteArray), .int .i64 (wrap64 (1 + t311))] (0, 0) _ rfl (by (with_reducible repeat (first | refine blk_drewN ?_ _ | refine blk_drew ?_ | refine blk_alloc ?_ _)); refine blk_put (cs := #[.string t307, .int .i64 x314001_6, .int .i64 x314002_6, .string (⟨#[120, 32, 121]⟩ : ByteArray), .int .i64 0]) ?_ 4 _ rfl; (with_reducible repeat (first | refine blk_drewN ?_ _ | refine blk_drew ?_ | refine blk_alloc ?_ _)); refine blk_put (cs := #[.string t307, .int .i64 x314001_6, .int .i64 x314002_6, .string (⟨#[]⟩ : ByteArray), .int .i64 0]) ?_ 3 _ rfl; (with_reducible repeat (first | refine blk_drewN ?_ _ | refine blk_drew ?_ | refine blk_alloc ?_ _)); refine blk_put (cs := #[.string t307, .int .i64 x314001_6, .int .i64 0, .string (⟨#[]⟩ : ByteArray), .int .i64 0]) ?_ 2 _ rfl; (with_reducible repeat (first | refine blk_drewN ?_ _ | refine blk_drew ?_ | refine blk_alloc ?_ _)); refine blk_put (cs := #[.string t307, .int .i64 0, .int .i64 0, .string (⟨#[]⟩ : ByteArray), .int .i64 0]) ?_ 1 _ rfl; (with_reducible repeat (first | refine blk_drewN ?_ _ | refine blk_drew ?_ | refine blk_alloc ?_ _)); refine blk_put (cs := #[.string (⟨#[]⟩ : ByteArray), .int .i64 0, .int .i64 0, .string (⟨#[]⟩ : ByteArray), .int .i64 0]) ?_ 0 _ rfl; (with_reducible repeat (first | refine blk_drewN ?_ _ | refine blk_drew ?_ | refine blk_alloc ?_ _)); refine blk_far ?_ NB306_313.out _; (with_reducible repeat (first | refine blk_drewN ?_ _ | refine blk_drew ?_ | refine blk_alloc ?_ _)); exact BK306.out) Try.underlying26 rfl (z_0)) rfl ?_
       exact ⟨z_13, z_106, z_107, z_108⟩
   ·replace c25 := Bool.eq_false_iff.mpr c25
    subst c25
    rw [if_neg (show ¬ (false = true) by decide)] at H
    simp only [Option.some.injEq, Prod.mk.injEq] at H
    obtain ⟨rfl, rfl, rfl, rfl, rfl, rfl⟩ := H
    go_wp2_with (first | ((with_reducible refine gate_callee (f := 78) rfl ?_); refine goesL_ (some 24) rfl rfl Try.func78 (z_0) rfl #[.pointer (some ⟨g, 0, none⟩), .int .i64 a1] rfl (z_14) ?_; (with_reducible refine (spec_l20Rd_odd.calls kj6 g s0_0 x1001_6 a1 false t319 w0 _ ?side1 ?side2 A24.out).mono ?_); (case side1 => exact z_106); (case side2 => exact z_107); rintro e w69 ⟨rfl, hi, hb, hk⟩; refine ⟨_, rfl, ?_⟩; have n0_ := Aside0.mk (KeepBut.blk hk (g' := gb306) (o := .cells #[.string (⟨#[]⟩ : ByteArray), .int .i64 0, .int .i64 0, .string (⟨#[]⟩ : ByteArray), .int .i64 0] 26 (0, 0)) (z_103) NB306_0.out (z_12)); have n1_ := Aside0.mk (KeepBut.blk hk (g' := gb313) (o := .cells #[.string t307, .int .i64 x314001_6, .int .i64 x314002_6, .string x314003_6, .int .i64 (wrap64 (1 + t311))] 26 (0, 0)) (z_109) NB313_0.out (z_12)); have n2_ := Aside0.mk (KeepBut.trans (z_108) hk (.inl rfl)); have n3_ := Aside0.mk (hb); have n4_ := Aside0.mk (hi); clear BK306; clear BK313; clear HK; clear HB; clear HI0; have BK306 := n0_; have BK313 := n1_; have HK := n2_; have HB := n3_; have HI0 := n4_; clear n0_ n1_ n2_ n3_ n4_; (try clear hb); (try clear hb2); (try clear hk); (try clear hi); have hnb70 := NB313_306.out; have hnc70 := NB306_313.out; have hnb71 := NB313_0.out; have hnc71 := NB0_313.out; have hcz72_0 : w69.cell? ⟨gb313, 0, none⟩ = some (.string t307) := (blk_cell BK313.out 0).trans rfl; have hcz72_1 : w69.cell? ⟨gb313, 1, none⟩ = some (.int .i64 x314001_6) := (blk_cell BK313.out 1).trans rfl; have hcz72_2 : w69.cell? ⟨gb313, 2, none⟩ = some (.int .i64 x314002_6) := (blk_cell BK313.out 2).trans rfl; have hcz72_3 : w69.cell? ⟨gb313, 3, none⟩ = some (.string x314003_6) := (blk_cell BK313.out 3).trans rfl; have hcz72_4 : w69.cell? ⟨gb313, 4, none⟩ = some (.int .i64 (wrap64 (1 + t311))) := (blk_cell BK313.out 4).trans rfl; have hfz72_0 := blk_frozen BK313.out 0; have hfz72_1 := blk_frozen BK313.out 1; have hfz72_2 := blk_frozen BK313.out 2; have hfz72_3 := blk_frozen BK313.out 3; have hfz72_4 := blk_frozen BK313.out 4; have hnb73 := NB306_0.out; have hnc73 := NB0_306.out; have hcz74_0 : w69.cell? ⟨gb306, 0, none⟩ = some (.string (⟨#[]⟩ : ByteArray)) := (blk_cell BK306.out 0).trans rfl; have hcz74_1 : w69.cell? ⟨gb306, 1, none⟩ = some (.int .i64 0) := (blk_cell BK306.out 1).trans rfl; have hcz74_2 : w69.cell? ⟨gb306, 2, none⟩ = some (.int .i64 0) := (blk_cell BK306.out 2).trans rfl; have hcz74_3 : w69.cell? ⟨gb306, 3, none⟩ = some (.string (⟨#[]⟩ : ByteArray)) := (blk_cell BK306.out 3).trans rfl; have hcz74_4 : w69.cell? ⟨gb306, 4, none⟩ = some (.int .i64 0) := (blk_cell BK306.out 4).trans rfl; have hfz74_0 := blk_frozen BK306.out 0; have hfz74_1 := blk_frozen BK306.out 1; have hfz74_2 := blk_frozen BK306.out 2; have hfz74_3 := blk_frozen BK306.out 3; have hfz74_4 := blk_frozen BK306.out 4))
    refine bodyPost_ret (results_cell_row rfl _ _ gb306 26 #[.string t307, .int .i64 x314001_6, .int .i64 x314002_6, .string x314003_6, .int .i64 (wrap64 (1 + t311))] (0, 0) _ rfl (by (with_reducible repeat (first | refine blk_drewN ?_ _ | refine blk_drew ?_ | refine blk_alloc ?_ _)); refine blk_put (cs := #[.string t307, .int .i64 x314001_6, .int .i64 x314002_6, .string x314003_6, .int .i64 0]) ?_ 4 _ rfl; (with_reducible repeat (first | refine blk_drewN ?_ _ | refine blk_drew ?_ | refine blk_alloc ?_ _)); refine blk_put (cs := #[.string t307, .int .i64 x314001_6, .int .i64 x314002_6, .string (⟨#[]⟩ : ByteArray), .int .i64 0]) ?_ 3 _ rfl; (with_reducible repeat (first | refine blk_drewN ?_ _ | refine blk_drew ?_ | refine blk_alloc ?_ _)); refine blk_put (cs := #[.string t307, .int .i64 x314001_6, .int .i64 0, .string (⟨#[]⟩ : ByteArray), .int .i64 0]) ?_ 2 _ rfl; (with_reducible repeat (first | refine blk_drewN ?_ _ | refine blk_drew ?_ | refine blk_alloc ?_ _)); refine blk_put (cs := #[.string t307, .int .i64 0, .int .i64 0, .string (⟨#[]⟩ : ByteArray), .int .i64 0]) ?_ 1 _ rfl; (with_reducible repeat (first | refine blk_drewN ?_ _ | refine blk_drew ?_ | refine blk_alloc ?_ _)); refine blk_put (cs := #[.string (⟨#[]⟩ : ByteArray), .int .i64 0, .int .i64 0, .string (⟨#[]⟩ : ByteArray), .int .i64 0]) ?_ 0 _ rfl; (with_reducible repeat (first | refine blk_drewN ?_ _ | refine blk_drew ?_ | refine blk_alloc ?_ _)); exact BK306.out) Try.underlying26 rfl (z_0)) rfl ?_
    exact ⟨z_13, z_106, z_107, z_108⟩

end Go.Proofs.Ytmgnmgobibpjjaa.GFnKeptAsk
