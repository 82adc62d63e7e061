/- What the Go functions that FnKeptFind reaches come to, walked step by step; there is no condition beyond those each statement names. -/
import Derived.Test.YtmgnmgobibpjjaaGFnKeptFindx0
import Derived.Test.YtmgnmgobibpjjaaGFnKeptFindx7
import Derived.Test.YtmgnmgobibpjjaaGFnKeptFindx9
import Derived.Test.YtmgnmgobibpjjaaGFnKeptFindx10
import Derived.Test.YtmgnmgobibpjjaaGFnKeptFindx11
import Derived.Test.YtmgnmgobibpjjaaGFnKeptFindx12
import Derived.Test.YtmgnmgobibpjjaaGFnKeptFindx14
namespace Go.Proofs.Ytmgnmgobibpjjaa.GFnKeptFind
open Go.RowKit Go.Proofs.YtmgnmgobibpjjaaVKeptFind.PrintWords Go.Proofs.YtmgnmgobibpjjaaVKeptFind.PrintLast Go.Proofs.YtmgnmgobibpjjaaVKeptFind.PrintMore
attribute [local go_sem] max2_int min2_int max_two min_two max_three min_three max_four min_four   -- for this text's walks alone
set_option linter.unusedVariables false
set_option linter.unusedSimpArgs false

/-! ### impl_KeptFind: function 49 -/
def impl_KeptFind.l0 : Nat → List (S26) → ByteArray → Int → List (S83) → Int → Option ((List (S83)) × Int × Bool)
 | 0, _, _, _, _, _ => none
 | k + 1, x1, x2, x3, x11, x12 => if x12 < 5 then ((impl_keep.f k x11 x1 x2 x3).bind fun bt406 => (if bt406.2.2.1 = 1 then (some (bt406.1, bt406.2.2.2.1, true)) else (if bt406.2.2.1 = 0 then (some (bt406.1, 0, false)) else (impl_KeptFind.l0 k x1 bt406.2.2.2.2.1 x3 bt406.1 (wrap64 (x12 + 1)))))) else (some (x11, 0, false))
def impl_KeptFind.f (k : Nat) (l0 : List (S83)) (l1 : List (S26)) (a2 : ByteArray) (a3 : Int) : Option ((List (S83)) × Int × Bool) := (impl_keptOk.f k l0 l1 a2 a3).bind fun t402 => (if t402 = true then ((impl_Kept_75.f l0).bind fun t403 => (impl_KeptFind.l0 k l1 a2 a3 t403 0)) else (some (([] : List (S83)), 0, false)))
theorem impl_KeptFind.mono_l : ∀ k, (∀ y0 y1 y2 y3 y4, LeO (impl_KeptFind.l0 k y0 y1 y2 y3 y4) (impl_KeptFind.l0 (k + 1) y0 y1 y2 y3 y4))
 | 0 => fun _ _ _ _ _ r h => by simp [impl_KeptFind.l0] at h
 | k + 1 => by
  have ih0 := impl_KeptFind.mono_l k
  ·intro y0 y1 y2 y3 y4
   unfold impl_KeptFind.l0
   repeat' first
   | (with_reducible exact ih0 _ _ _ _ _)
   | (with_reducible exact impl_keep.mono _ _ _ _ _)
   | (with_reducible exact impl_keptOk.mono _ _ _ _ _)
   | (with_reducible exact LeO.refl _)
   | (with_reducible exact LeO.none _)
   | (with_reducible refine LeO.ite ?_ ?_)
   | (with_reducible refine LeO.bind ?_ (fun _ => ?_))
   | exact ih0 _ _ _ _ _
   | exact impl_keep.mono _ _ _ _ _
   | exact impl_keptOk.mono _ _ _ _ _
   | exact LeO.none _
   | refine LeO.ite ?_ ?_
   | refine LeO.bind ?_ (fun _ => ?_)
theorem impl_KeptFind.mono : ∀ a0 a1 a2 a3 k, LeO (impl_KeptFind.f k a0 a1 a2 a3) (impl_KeptFind.f (k + 1) a0 a1 a2 a3) := by
 intro a0 a1 a2 a3 k
 have ih0 := impl_KeptFind.mono_l k
 unfold impl_KeptFind.f
 repeat' first
   | (with_reducible exact ih0 _ _ _ _ _)
   | (with_reducible exact impl_keep.mono _ _ _ _ _)
   | (with_reducible exact impl_keptOk.mono _ _ _ _ _)
   | (with_reducible exact LeO.refl _)
   | (with_reducible exact LeO.none _)
   | (with_reducible refine LeO.ite ?_ ?_)
   | (with_reducible refine LeO.bind ?_ (fun _ => ?_))
   | exact ih0 _ _ _ _ _
   | exact impl_keep.mono _ _ _ _ _
   | exact impl_keptOk.mono _ _ _ _ _
   | exact LeO.none _
   | refine LeO.ite ?_ ?_
   | refine LeO.bind ?_ (fun _ => ?_)
set_option maxHeartbeats 8000000 in
set_option maxRecDepth 100000 in
theorem lam_76.calls (k bo bl bn : Nat) (A : Option Addr) (c : Nat) (l : List S26) (v : Value) (xs : List S83) (s : ByteArray) (now : Int) (r1 : List S83) (r2 : ByteArray) (r3 r4 : Int) (r5 : ByteArray) (r6 : Int) (r7 : Bool) (w0 w : World) (hr : Kd.C k26 w0 A l.length l) (hc : l.length ≤ c) (hv : Kd.R k83 83 w w0.heap.size (fun _ => True) v xs) (hbo : w.heap[bo]? = some (.cells #[v] 48 (0, 0))) (hbl : w.heap[bl]? = some (.cells #[.slice A l.length c] 36 (0, 0))) (hbn : w.heap[bn]? = some (.cells #[.int .i64 now] 3 (0, 0))) (hge : w0.heap.size ≤ bo) (hB : Below w0.heap.size w0 w) (h : impl_keep.f k xs l s now = some (r1, r2, r3, r4, r5, r6, r7)) :
  Calls Try.prog 76 #[.string s, .pointer (some ⟨bo, 0, none⟩), .pointer (some ⟨bl, 0, none⟩), .pointer (some ⟨bn, 0, none⟩)] w fun e w' => ∃ v' : Value, e = .returned (.agg #[.string r2, .int .i64 r3, .int .i64 r4, .string r5, .int .i64 r6]) ∧ Kd.R k83 83 w' w0.heap.size (fun _ => True) v' r1 ∧ w'.heap[bo]? = some (.cells #[v'] 48 (0, 0)) ∧ w'.heap[bl]? = some (.cells #[.slice A l.length c] 36 (0, 0)) ∧ w'.heap[bn]? = some (.cells #[.int .i64 now] 3 (0, 0)) ∧ Below w0.heap.size w0 w' := by
 obtain ⟨Ao, co, rfl⟩ := Kd.R_slice hv
 have hu_ := Try.underlying26
 have nl_ : bl ≠ bo := fun e => by rw [e, hbo] at hbl; exact absurd hbl (z_12)
 have nn_ : bn ≠ bo := fun e => by rw [e, hbo] at hbn; exact absurd hbn (z_12)
 have HR := Aside0.mk hr
 have HC := Aside0.mk hc
 have HO := Aside0.mk hv
 have BKo := Aside0.mk hbo
 have BKl := Aside0.mk hbl
 have BKn := Aside0.mk hbn
 have HG := Aside0.mk hge
 have HB := Aside0.mk hB
 have HA := Aside0.mk h
 clear hr hc hv hbo hbl hbn hge hB h
 go_enter Try.func76, Try.ntmps76
 go_upto_region 2 with (first | ((with_reducible refine gate_dst (N := 5) rfl ?_); refine box_event ?hg (N := 5) ?hd (cs := #[.string (⟨#[]⟩ : ByteArray), .int .i64 0, .int .i64 0, .string (⟨#[]⟩ : ByteArray), .int .i64 0]) (t := 26) ?hr ?_; (case hd => rfl); (case hg => rfl); (case hr => exact z_9); intro gb8005 hg w5 hbox hb; have GE8005 := Aside0.mk ((z_123) : w0.heap.size ≤ gb8005); have NEBKo_8005 : bo ≠ gb8005 := (z_124); have NEBKl_8005 : bl ≠ gb8005 := (z_125); have NEBKn_8005 : bn ≠ gb8005 := (z_126); have m0_ := Aside0.mk (below_step HB.out hb); have m1_ := Aside0.mk (Kd.R_below HO.out hb); have m2_ := Aside0.mk (blk_below BKo.out hb); have m3_ := Aside0.mk (blk_below BKl.out hb); have m4_ := Aside0.mk (blk_below BKn.out hb); clear HB HO BKo BKl BKn; have HB := m0_; have HO := m1_; have BKo := m2_; have BKl := m3_; have BKn := m4_; clear m0_ m1_ m2_ m3_ m4_; have BK8005 := Aside0.mk hbox; clear hb hbox hg; skip) | ((with_reducible refine gate_dst (N := 6) rfl ?_); refine box_event ?hg (N := 6) ?hd (cs := #[.string (⟨#[]⟩ : ByteArray), .int .i64 0, .int .i64 0, .string (⟨#[]⟩ : ByteArray), .int .i64 0]) (t := 26) ?hr ?_; (case hd => rfl); (case hg => rfl); (case hr => exact z_9); intro gb8006 hg w6 hbox hb; have GE8006 := Aside0.mk ((z_123) : w0.heap.size ≤ gb8006); have NEBKo_8006 : bo ≠ gb8006 := (z_124); have NEBKl_8006 : bl ≠ gb8006 := (z_125); have NEBKn_8006 : bn ≠ gb8006 := (z_126); have NEBK8005_8006 : gb8005 ≠ gb8006 := (by rw [hg]; exact Nat.ne_of_lt (blk_lt BK8005.out)); have m0_ := Aside0.mk (below_step HB.out hb); have m1_ := Aside0.mk (Kd.R_below HO.out hb); have m2_ := Aside0.mk (blk_below BKo.out hb); have m3_ := Aside0.mk (blk_below BKl.out hb); have m4_ := Aside0.mk (blk_below BKn.out hb); have m5_ := Aside0.mk (blk_below BK8005.out hb); clear HB HO BKo BKl BKn BK8005; have HB := m0_; have HO := m1_; have BKo := m2_; have BKl := m3_; have BKn := m4_; have BK8005 := m5_; clear m0_ m1_ m2_ m3_ m4_ m5_; have BK8006 := Aside0.mk hbox; clear hb hbox hg; have hco_ : w6.cell? ⟨bo, 0, none⟩ = some (.slice Ao xs.length co) := (blk_cell BKo.out 0).trans rfl; have hcl_ : w6.cell? ⟨bl, 0, none⟩ = some (.slice A l.length c) := (blk_cell BKl.out 0).trans rfl; have hcn_ : w6.cell? ⟨bn, 0, none⟩ = some (.int .i64 now) := (blk_cell BKn.out 0).trans rfl))
 go_wp2_with (first | (go_at_call 74; (with_reducible refine (impl_keep.calls k Ao co xs A c l s now r1 r2 r3 r4 r5 r6 r7 _ ?s1 ?s2 ?s3 HC.out HA.out).mono ?_); (case s1 => exact (Kd.R_reads' HO.out).2.2); (case s2 => exact (Kd.R_reads' HO.out).2.1); (case s3 => exact Kd.C_below HR.out HB.out); rintro e w7 ⟨v', rfl, ho, hb⟩; obtain ⟨Aq, cq, rfl⟩ := Kd.R_slice ho; clear hco_ hcl_ hcn_; have HQ := Aside0.mk (Kd.R_lower ho (below_size HB.out)); have m0_ := Aside0.mk (blk_below BKo.out hb); have m1_ := Aside0.mk (blk_below BKl.out hb); have m2_ := Aside0.mk (blk_below BKn.out hb); have m3_ := Aside0.mk (blk_below BK8005.out hb); have m4_ := Aside0.mk (blk_below BK8006.out hb); have m5_ := Aside0.mk (below_step HB.out hb); clear BKo BKl BKn BK8005 BK8006 HB; have BKo := m0_; have BKl := m1_; have BKn := m2_; have BK8005 := m3_; have BK8006 := m4_; have HB := m5_; clear m0_ m1_ m2_ m3_ m4_ m5_; clear HO ho hb; have hco_ : w7.cell? ⟨bo, 0, none⟩ = some (.slice Ao xs.length co) := (blk_cell BKo.out 0).trans rfl; have hfo_ := blk_frozen BKo.out 0; have hcz8005_0 : w7.cell? ⟨gb8005, 0, none⟩ = some (.string (⟨#[]⟩ : ByteArray)) := (blk_cell BK8005.out 0).trans rfl; have hfz8005_0 := blk_frozen BK8005.out 0; have hcz8005_1 : w7.cell? ⟨gb8005, 1, none⟩ = some (.int .i64 0) := (blk_cell BK8005.out 1).trans rfl; have hfz8005_1 := blk_frozen BK8005.out 1; have hcz8005_2 : w7.cell? ⟨gb8005, 2, none⟩ = some (.int .i64 0) := (blk_cell BK8005.out 2).trans rfl; have hfz8005_2 := blk_frozen BK8005.out 2; have hcz8005_3 : w7.cell? ⟨gb8005, 3, none⟩ = some (.string (⟨#[]⟩ : ByteArray)) := (blk_cell BK8005.out 3).trans rfl; have hfz8005_3 := blk_frozen BK8005.out 3; have hcz8005_4 : w7.cell? ⟨gb8005, 4, none⟩ = some (.int .i64 0) := (blk_cell BK8005.out 4).trans rfl; have hfz8005_4 := blk_frozen BK8005.out 4; have hcz8006_0 : w7.cell? ⟨gb8006, 0, none⟩ = some (.string (⟨#[]⟩ : ByteArray)) := (blk_cell BK8006.out 0).trans rfl; have hfz8006_0 := blk_frozen BK8006.out 0; have hcz8006_1 : w7.cell? ⟨gb8006, 1, none⟩ = some (.int .i64 0) := (blk_cell BK8006.out 1).trans rfl; have hfz8006_1 := blk_frozen BK8006.out 1; have hcz8006_2 : w7.cell? ⟨gb8006, 2, none⟩ = some (.int .i64 0) := (blk_cell BK8006.out 2).trans rfl; have hfz8006_2 := blk_frozen BK8006.out 2; have hcz8006_3 : w7.cell? ⟨gb8006, 3, none⟩ = some (.string (⟨#[]⟩ : ByteArray)) := (blk_cell BK8006.out 3).trans rfl; have hfz8006_3 := blk_frozen BK8006.out 3; have hcz8006_4 : w7.cell? ⟨gb8006, 4, none⟩ = some (.int .i64 0) := (blk_cell BK8006.out 4).trans rfl; have hfz8006_4 := blk_frozen BK8006.out 4))
 refine bodyPost_ret (results_cell_row rfl _ _ gb8005 26 #[.string r2, .int .i64 r3, .int .i64 r4, .string r5, .int .i64 r6] (0, 0) _ rfl (by refine blk_put (cs := #[.string r2, .int .i64 r3, .int .i64 r4, .string r5, .int .i64 0]) ?_ 4 _ rfl; refine blk_put (cs := #[.string r2, .int .i64 r3, .int .i64 r4, .string (⟨#[]⟩ : ByteArray), .int .i64 0]) ?_ 3 _ rfl; refine blk_put (cs := #[.string r2, .int .i64 r3, .int .i64 0, .string (⟨#[]⟩ : ByteArray), .int .i64 0]) ?_ 2 _ rfl; refine blk_put (cs := #[.string r2, .int .i64 0, .int .i64 0, .string (⟨#[]⟩ : ByteArray), .int .i64 0]) ?_ 1 _ rfl; refine blk_put (cs := #[.string (⟨#[]⟩ : ByteArray), .int .i64 0, .int .i64 0, .string (⟨#[]⟩ : ByteArray), .int .i64 0]) ?_ 0 _ rfl; (with_reducible refine blk_far ?_ NEBK8005_8006 _); (with_reducible refine blk_far ?_ NEBK8005_8006 _); (with_reducible refine blk_far ?_ NEBK8005_8006 _); (with_reducible refine blk_far ?_ NEBK8005_8006 _); (with_reducible refine blk_far ?_ NEBK8005_8006 _); (with_reducible refine blk_far ?_ (Ne.symm NEBKo_8005) _); exact BK8005.out) Try.underlying26 rfl (z_0)) rfl ?_
 refine ⟨.slice Aq r1.length cq, rfl, Kd.R_mono (ok := fun k_ => ((True ∧ k_ ≠ bo) ∧ k_ ≠ gb8005) ∧ k_ ≠ gb8006) (by (with_reducible refine Kd.R_far ?_ (fun _ hk => hk.1.2) _); (with_reducible refine Kd.R_far ?_ (fun _ hk => hk.1.2) _); (with_reducible refine Kd.R_far ?_ (fun _ hk => hk.1.2) _); (with_reducible refine Kd.R_far ?_ (fun _ hk => hk.1.2) _); (with_reducible refine Kd.R_far ?_ (fun _ hk => hk.1.2) _); (with_reducible refine Kd.R_far ?_ (fun _ hk => hk.2) _); (with_reducible refine Kd.R_far ?_ (fun _ hk => hk.2) _); (with_reducible refine Kd.R_far ?_ (fun _ hk => hk.2) _); (with_reducible refine Kd.R_far ?_ (fun _ hk => hk.2) _); (with_reducible refine Kd.R_far ?_ (fun _ hk => hk.2) _); (with_reducible refine Kd.R_far ?_ (fun _ hk => hk.1.1.2) _); exact Kd.R_types (Kd.R_types (Kd.R_types HQ.out BKo.out (z_5)) BK8005.out (z_5)) BK8006.out (z_5)) (fun _ _ => trivial), (by (with_reducible refine blk_far ?_ NEBKo_8005 _); (with_reducible refine blk_far ?_ NEBKo_8005 _); (with_reducible refine blk_far ?_ NEBKo_8005 _); (with_reducible refine blk_far ?_ NEBKo_8005 _); (with_reducible refine blk_far ?_ NEBKo_8005 _); (with_reducible refine blk_far ?_ NEBKo_8006 _); (with_reducible refine blk_far ?_ NEBKo_8006 _); (with_reducible refine blk_far ?_ NEBKo_8006 _); (with_reducible refine blk_far ?_ NEBKo_8006 _); (with_reducible refine blk_far ?_ NEBKo_8006 _); exact blk_put BKo.out 0 _ rfl), (by (with_reducible refine blk_far ?_ NEBKl_8005 _); (with_reducible refine blk_far ?_ NEBKl_8005 _); (with_reducible refine blk_far ?_ NEBKl_8005 _); (with_reducible refine blk_far ?_ NEBKl_8005 _); (with_reducible refine blk_far ?_ NEBKl_8005 _); (with_reducible refine blk_far ?_ NEBKl_8006 _); (with_reducible refine blk_far ?_ NEBKl_8006 _); (with_reducible refine blk_far ?_ NEBKl_8006 _); (with_reducible refine blk_far ?_ NEBKl_8006 _); (with_reducible refine blk_far ?_ NEBKl_8006 _); (with_reducible refine blk_far ?_ nl_ _); exact BKl.out), (by (with_reducible refine blk_far ?_ NEBKn_8005 _); (with_reducible refine blk_far ?_ NEBKn_8005 _); (with_reducible refine blk_far ?_ NEBKn_8005 _); (with_reducible refine blk_far ?_ NEBKn_8005 _); (with_reducible refine blk_far ?_ NEBKn_8005 _); (with_reducible refine blk_far ?_ NEBKn_8006 _); (with_reducible refine blk_far ?_ NEBKn_8006 _); (with_reducible refine blk_far ?_ NEBKn_8006 _); (with_reducible refine blk_far ?_ NEBKn_8006 _); (with_reducible refine blk_far ?_ NEBKn_8006 _); (with_reducible refine blk_far ?_ nn_ _); exact BKn.out), ?_⟩
 (with_reducible refine below_set ?_ GE8005.out); (with_reducible refine below_set ?_ GE8005.out); (with_reducible refine below_set ?_ GE8005.out); (with_reducible refine below_set ?_ GE8005.out); (with_reducible refine below_set ?_ GE8005.out); (with_reducible refine below_set ?_ GE8006.out); (with_reducible refine below_set ?_ GE8006.out); (with_reducible refine below_set ?_ GE8006.out); (with_reducible refine below_set ?_ GE8006.out); (with_reducible refine below_set ?_ GE8006.out); (with_reducible refine below_set ?_ HG.out); exact HB.out
set_option maxHeartbeats 8000000 in
set_option maxRecDepth 100000 in
theorem follow_76.calls (k bo bl bn : Nat) (A : Option Addr) (c : Nat) (l : List S26) (v : Value) (xs : List S83) (s : ByteArray) (now : Int) (r1 : List S83) (r2 : Int) (r3 : Bool) (w0 w : World) (hr : Kd.C k26 w0 A l.length l) (hc : l.length ≤ c) (hv : Kd.R k83 83 w w0.heap.size (fun _ => True) v xs) (hbo : w.heap[bo]? = some (.cells #[v] 48 (0, 0))) (hbl : w.heap[bl]? = some (.cells #[.slice A l.length c] 36 (0, 0))) (hbn : w.heap[bn]? = some (.cells #[.int .i64 now] 3 (0, 0))) (hge : w0.heap.size ≤ bo) (hB : Below w0.heap.size w0 w) (h : impl_KeptFind.l0 k l s now xs 0 = some (r1, r2, r3)) :
  Calls Try.prog 70 #[.string s, .func (.func 76) #[] #[.pointer (some ⟨bo, 0, none⟩), .pointer (some ⟨bl, 0, none⟩), .pointer (some ⟨bn, 0, none⟩)]] w fun e w' => ∃ v' : Value, e = .returned (.tuple #[.int .i64 r2, .bool r3]) ∧ Kd.R k83 83 w' w0.heap.size (fun _ => True) v' r1 ∧ w'.heap[bo]? = some (.cells #[v'] 48 (0, 0)) ∧ w'.heap[bl]? = some (.cells #[.slice A l.length c] 36 (0, 0)) ∧ w'.heap[bn]? = some (.cells #[.int .i64 now] 3 (0, 0)) ∧ Below w0.heap.size w0 w' := by
 have hu_ := Try.underlying26
 have HR := Aside0.mk hr
 have HC := Aside0.mk hc
 have HO := Aside0.mk hv
 have BKo := Aside0.mk hbo
 have BKl := Aside0.mk hbl
 have BKn := Aside0.mk hbn
 have HG := Aside0.mk hge
 have HB := Aside0.mk hB
 have H' := Aside0.mk h
 clear hr hc hv hbo hbl hbn hge hB h
 go_enter Try.func70, Try.ntmps70
 go_wp2
 go_loopg [0, 7] k (fun kq v0 v7 w' => ∃ (x0 : ByteArray) (x7 : Int) (vv : Value) (xx : List S83), v0 = .string x0 ∧ v7 = .int .i64 x7 ∧ Aside0 (impl_KeptFind.l0 kq l x0 now xx x7 = some (r1, r2, r3)) ∧ Aside0 (kq ≤ k) ∧ Aside0 (Kd.R k83 83 w' w0.heap.size (fun _ => True) vv xx) ∧ Aside0 (w'.heap[bo]? = some (.cells #[vv] 48 (0, 0))) ∧ Aside0 (w'.heap[bl]? = some (.cells #[.slice A l.length c] 36 (0, 0))) ∧ Aside0 (w'.heap[bn]? = some (.cells #[.int .i64 now] 3 (0, 0))) ∧ Aside0 (Below w0.heap.size w0 w'))
 case atStart => exact ⟨s, 0, v, xs, rfl, rfl, H', ⟨Nat.le_refl _⟩, HO, BKo, BKl, BKn, HB⟩
 case round =>
  clear H' HO BKo BKl BKn HB
  obtain ⟨x0, x7, vv, xx, rfl, rfl, HA, HK, HO, BKo, BKl, BKn, HB⟩ := hrel
  cases gk with
  | zero => exact absurd HA.out (by simp [impl_KeptFind.l0])
  | succ k1 =>
   have H := HA.out
   clear HA
   simp only [impl_KeptFind.l0] at H
   by_cases c1 : x7 < 5
   ·rw [if_pos c1] at H
    have c1b0 : decide (x7 < 5) = true := decide_eq_true c1
    clear c1
    replace H := Option.bind_eq_some_iff.mp H
    obtain ⟨⟨q1, q2, q3, q4, q5, q6, q7⟩, A50, H⟩ := H
    dsimp only at H
    have A5 := Aside0.mk A50
    clear A50
    by_cases c2 : q3 = 1
    ·rw [if_pos c2] at H
     have c2b0 : (q3 == 1) = true := beq_iff_eq.mpr c2
     clear c2
     simp only [Option.some.injEq, Prod.mk.injEq] at H
     obtain ⟨rfl, rfl, rfl⟩ := H
     go_wp2_with (first | (go_at_call 76; (with_reducible refine (lam_76.calls k1 bo bl bn A c l vv xx x0 now q1 q2 q3 q4 q5 q6 q7 w0 _ HR.out HC.out HO.out BKo.out BKl.out BKn.out HG.out HB.out A5.out).mono ?_); rintro e w9 ⟨vn, rfl, ho, hbo, hbl, hbn, hb⟩; clear HO BKo BKl BKn HB; have HO := Aside0.mk ho; have BKo := Aside0.mk hbo; have BKl := Aside0.mk hbl; have BKn := Aside0.mk hbn; have HB := Aside0.mk hb; clear ho hbo hbl hbn hb) | ((with_reducible refine gate_dst (N := 6) rfl ?_); refine box_event ?hg (N := 6) ?hd (cs := #[.string (⟨#[]⟩ : ByteArray), .int .i64 0, .int .i64 0, .string (⟨#[]⟩ : ByteArray), .int .i64 0]) (t := 26) ?hr ?_; (case hd => rfl); (case hg => rfl); (case hr => exact z_9); intro gb8006 hg w6 hbox hb; have GE8006 := Aside0.mk ((z_123) : w0.heap.size ≤ gb8006); have NEBKo_8006 : bo ≠ gb8006 := (z_124); have NEBKl_8006 : bl ≠ gb8006 := (z_125); have NEBKn_8006 : bn ≠ gb8006 := (z_126); have m0_ := Aside0.mk (below_step HB.out hb); have m1_ := Aside0.mk (Kd.R_below HO.out hb); have m2_ := Aside0.mk (blk_below BKo.out hb); have m3_ := Aside0.mk (blk_below BKl.out hb); have m4_ := Aside0.mk (blk_below BKn.out hb); clear HB HO BKo BKl BKn; have HB := m0_; have HO := m1_; have BKo := m2_; have BKl := m3_; have BKn := m4_; clear m0_ m1_ m2_ m3_ m4_; have BK8006 := Aside0.mk hbox; clear hb hbox hg; have hcz8006_0 : w6.cell? ⟨gb8006, 0, none⟩ = some (.string (⟨#[]⟩ : ByteArray)) := (blk_cell BK8006.out 0).trans rfl; have hfz8006_0 := blk_frozen BK8006.out 0; have hcz8006_1 : w6.cell? ⟨gb8006, 1, none⟩ = some (.int .i64 0) := (blk_cell BK8006.out 1).trans rfl; have hfz8006_1 := blk_frozen BK8006.out 1; have hcz8006_2 : w6.cell? ⟨gb8006, 2, none⟩ = some (.int .i64 0) := (blk_cell BK8006.out 2).trans rfl; have hfz8006_2 := blk_frozen BK8006.out 2; have hcz8006_3 : w6.cell? ⟨gb8006, 3, none⟩ = some (.string (⟨#[]⟩ : ByteArray)) := (blk_cell BK8006.out 3).trans rfl; have hfz8006_3 := blk_frozen BK8006.out 3; have hcz8006_4 : w6.cell? ⟨gb8006, 4, none⟩ = some (.int .i64 0) := (blk_cell BK8006.out 4).trans rfl; have hfz8006_4 := blk_frozen BK8006.out 4))
     go_ret2
     exact ⟨vn, z_127, (Kd.R_mono (ok := fun k_ => True ∧ k_ ≠ gb8006) (z_128) (fun _ _ => trivial)), (z_129), (z_130), (z_131), (z_132)⟩
    ·rw [if_neg c2] at H
     have c2b0 : (q3 == 1) = false := beq_eq_false_iff_ne.mpr c2
     clear c2
     by_cases c3 : q3 = 0
     ·rw [if_pos c3] at H
      have c3b0 : (q3 == 0) = true := beq_iff_eq.mpr c3
      clear c3
      simp only [Option.some.injEq, Prod.mk.injEq] at H
      obtain ⟨rfl, rfl, rfl⟩ := H
      go_wp2_with (first | (go_at_call 76; (with_reducible refine (lam_76.calls k1 bo bl bn A c l vv xx x0 now q1 q2 q3 q4 q5 q6 q7 w0 _ HR.out HC.out HO.out BKo.out BKl.out BKn.out HG.out HB.out A5.out).mono ?_); rintro e w9 ⟨vn, rfl, ho, hbo, hbl, hbn, hb⟩; clear HO BKo BKl BKn HB; have HO := Aside0.mk ho; have BKo := Aside0.mk hbo; have BKl := Aside0.mk hbl; have BKn := Aside0.mk hbn; have HB := Aside0.mk hb; clear ho hbo hbl hbn hb) | ((with_reducible refine gate_dst (N := 6) rfl ?_); refine box_event ?hg (N := 6) ?hd (cs := #[.string (⟨#[]⟩ : ByteArray), .int .i64 0, .int .i64 0, .string (⟨#[]⟩ : ByteArray), .int .i64 0]) (t := 26) ?hr ?_; (case hd => rfl); (case hg => rfl); (case hr => exact z_9); intro gb8006 hg w6 hbox hb; have GE8006 := Aside0.mk ((z_123) : w0.heap.size ≤ gb8006); have NEBKo_8006 : bo ≠ gb8006 := (z_124); have NEBKl_8006 : bl ≠ gb8006 := (z_125); have NEBKn_8006 : bn ≠ gb8006 := (z_126); have m0_ := Aside0.mk (below_step HB.out hb); have m1_ := Aside0.mk (Kd.R_below HO.out hb); have m2_ := Aside0.mk (blk_below BKo.out hb); have m3_ := Aside0.mk (blk_below BKl.out hb); have m4_ := Aside0.mk (blk_below BKn.out hb); clear HB HO BKo BKl BKn; have HB := m0_; have HO := m1_; have BKo := m2_; have BKl := m3_; have BKn := m4_; clear m0_ m1_ m2_ m3_ m4_; have BK8006 := Aside0.mk hbox; clear hb hbox hg; have hcz8006_0 : w6.cell? ⟨gb8006, 0, none⟩ = some (.string (⟨#[]⟩ : ByteArray)) := (blk_cell BK8006.out 0).trans rfl; have hfz8006_0 := blk_frozen BK8006.out 0; have hcz8006_1 : w6.cell? ⟨gb8006, 1, none⟩ = some (.int .i64 0) := (blk_cell BK8006.out 1).trans rfl; have hfz8006_1 := blk_frozen BK8006.out 1; have hcz8006_2 : w6.cell? ⟨gb8006, 2, none⟩ = some (.int .i64 0) := (blk_cell BK8006.out 2).trans rfl; have hfz8006_2 := blk_frozen BK8006.out 2; have hcz8006_3 : w6.cell? ⟨gb8006, 3, none⟩ = some (.string (⟨#[]⟩ : ByteArray)) := (blk_cell BK8006.out 3).trans rfl; have hfz8006_3 := blk_frozen BK8006.out 3; have hcz8006_4 : w6.cell? ⟨gb8006, 4, none⟩ = some (.int .i64 0) := (blk_cell BK8006.out 4).trans rfl; have hfz8006_4 := blk_frozen BK8006.out 4))
      go_ret2
      exact ⟨vn, z_127, (Kd.R_mono (ok := fun k_ => True ∧ k_ ≠ gb8006) (z_128) (fun _ _ => trivial)), (z_129), (z_130), (z_131), (z_132)⟩
     ·rw [if_neg c3] at H
      have c3b0 : (q3 == 0) = false := beq_eq_false_iff_ne.mpr c3
      clear c3
      have H' := Aside0.mk H
      clear H
      go_wp2_with (first | (go_at_call 76; (with_reducible refine (lam_76.calls k1 bo bl bn A c l vv xx x0 now q1 q2 q3 q4 q5 q6 q7 w0 _ HR.out HC.out HO.out BKo.out BKl.out BKn.out HG.out HB.out A5.out).mono ?_); rintro e w9 ⟨vn, rfl, ho, hbo, hbl, hbn, hb⟩; clear HO BKo BKl BKn HB; have HO := Aside0.mk ho; have BKo := Aside0.mk hbo; have BKl := Aside0.mk hbl; have BKn := Aside0.mk hbn; have HB := Aside0.mk hb; clear ho hbo hbl hbn hb) | ((with_reducible refine gate_dst (N := 6) rfl ?_); refine box_event ?hg (N := 6) ?hd (cs := #[.string (⟨#[]⟩ : ByteArray), .int .i64 0, .int .i64 0, .string (⟨#[]⟩ : ByteArray), .int .i64 0]) (t := 26) ?hr ?_; (case hd => rfl); (case hg => rfl); (case hr => exact z_9); intro gb8006 hg w6 hbox hb; have GE8006 := Aside0.mk ((z_123) : w0.heap.size ≤ gb8006); have NEBKo_8006 : bo ≠ gb8006 := (z_124); have NEBKl_8006 : bl ≠ gb8006 := (z_125); have NEBKn_8006 : bn ≠ gb8006 := (z_126); have m0_ := Aside0.mk (below_step HB.out hb); have m1_ := Aside0.mk (Kd.R_below HO.out hb); have m2_ := Aside0.mk (blk_below BKo.out hb); have m3_ := Aside0.mk (blk_below BKl.out hb); have m4_ := Aside0.mk (blk_below BKn.out hb); clear HB HO BKo BKl BKn; have HB := m0_; have HO := m1_; have BKo := m2_; have BKl := m3_; have BKn := m4_; clear m0_ m1_ m2_ m3_ m4_; have BK8006 := Aside0.mk hbox; clear hb hbox hg; have hcz8006_0 : w6.cell? ⟨gb8006, 0, none⟩ = some (.string (⟨#[]⟩ : ByteArray)) := (blk_cell BK8006.out 0).trans rfl; have hfz8006_0 := blk_frozen BK8006.out 0; have hcz8006_1 : w6.cell? ⟨gb8006, 1, none⟩ = some (.int .i64 0) := (blk_cell BK8006.out 1).trans rfl; have hfz8006_1 := blk_frozen BK8006.out 1; have hcz8006_2 : w6.cell? ⟨gb8006, 2, none⟩ = some (.int .i64 0) := (blk_cell BK8006.out 2).trans rfl; have hfz8006_2 := blk_frozen BK8006.out 2; have hcz8006_3 : w6.cell? ⟨gb8006, 3, none⟩ = some (.string (⟨#[]⟩ : ByteArray)) := (blk_cell BK8006.out 3).trans rfl; have hfz8006_3 := blk_frozen BK8006.out 3; have hcz8006_4 : w6.cell? ⟨gb8006, 4, none⟩ = some (.int .i64 0) := (blk_cell BK8006.out 4).trans rfl; have hfz8006_4 := blk_frozen BK8006.out 4))
      go_roundg k1
      case measure => have := HK.out; omega
      case rel => exact ⟨q5, wrap64 (x7 + 1), vn, q1, z_127, rfl, H', ⟨by have := HK.out; omega⟩, ⟨(Kd.R_mono (ok := fun k_ => True ∧ k_ ≠ gb8006) (z_128) (fun _ _ => trivial))⟩, ⟨(z_129)⟩, ⟨(z_130)⟩, ⟨(z_131)⟩, ⟨(z_132)⟩⟩
   ·rw [if_neg c1] at H
    have c1b0 : decide (x7 < 5) = false := decide_eq_false c1
    clear c1
    simp only [Option.some.injEq, Prod.mk.injEq] at H
    obtain ⟨rfl, rfl, rfl⟩ := H
    go_wp2
    go_ret2
    exact ⟨vv, z_127, HO.out, BKo.out, BKl.out, BKn.out, HB.out⟩
set_option maxHeartbeats 8000000 in
set_option maxRecDepth 100000 in
theorem impl_KeptFind.calls (k : Nat) (A0 : Option Addr) (c0 : Nat) (l0 : List (S83)) (A1 : Option Addr) (c1 : Nat) (l1 : List (S26)) (a2 : ByteArray) (a3 : Int) (r1 : List (S83)) (r2 : Int) (r3 : Bool) (w : World) (hr0 : Kd.C k83 w A0 l0.length l0) (hc0 : l0.length ≤ c0) (hr1 : Kd.C k26 w A1 l1.length l1) (hc1 : l1.length ≤ c1) (h : impl_KeptFind.f k l0 l1 a2 a3 = some (r1, r2, r3)) :
  Calls Try.prog 49 #[.slice A0 l0.length c0, .slice A1 l1.length c1, .string a2, .int .i64 a3] w fun e w' => ∃ v0_ : Value, e = .returned (.tuple #[v0_, .int .i64 r2, .bool r3]) ∧ Kd.R k83 83 w' w.heap.size (fun _ => True) v0_ r1 ∧ Below w.heap.size w w' := by
 have hu_ := Try.underlying26
 have HR0 := Aside0.mk hr0
 have HC0 := Aside0.mk hc0
 have HR1 := Aside0.mk hr1
 have HC1 := Aside0.mk hc1
 have HB := Aside0.mk (Below.refl w.heap.size w)
 have H : ((impl_keptOk.f k l0 l1 a2 a3).bind fun t1 => (if t1 = true then ((impl_Kept_75.f l0).bind fun t2 => (impl_KeptFind.l0 k l1 a2 a3 t2 0)) else (some (([] : List (S83)), 0, false)))) = some (r1, r2, r3) := h
 clear hr0 hc0 hr1 hc1 h
 replace H := Option.bind_eq_some_iff.mp H
 obtain ⟨t1, A30, H⟩ := H
 have A3 := Aside0.mk A30
 clear A30
 by_cases c4 : t1 = true
 ·subst c4
  rw [if_pos rfl] at H
  replace H := Option.bind_eq_some_iff.mp H
  obtain ⟨t2, A50, H⟩ := H
  have A5 := Aside0.mk A50
  have H' := Aside0.mk H
  clear A50 H
  go_enter Try.func49, Try.ntmps49
  go_wp2_with (first | ((with_reducible refine gate_dst (N := 5) rfl ?_); refine box_event ?hg (N := 5) ?hd (cs := #[.slice A1 l1.length c1]) (t := 36) ?hr ?_; (case hd => rfl); (case hg => rfl); (case hr => exact z_9); intro gb8005 hg w5 hbox hb; have GE8005 := Aside0.mk ((z_123) : w.heap.size ≤ gb8005); skip; have m0_ := Aside0.mk (below_step HB.out hb); clear HB; have HB := m0_; clear m0_; have BK8005 := Aside0.mk hbox; clear hb hbox hg; skip) | ((with_reducible refine gate_dst (N := 7) rfl ?_); refine box_event ?hg (N := 7) ?hd (cs := #[.int .i64 a3]) (t := 3) ?hr ?_; (case hd => rfl); (case hg => rfl); (case hr => exact z_9); intro gb8007 hg w7 hbox hb; have GE8007 := Aside0.mk ((z_123) : w.heap.size ≤ gb8007); skip; have m0_ := Aside0.mk (below_step HB.out hb); have m1_ := Aside0.mk (blk_below BK8005.out hb); clear HB BK8005; have HB := m0_; have BK8005 := m1_; clear m0_ m1_; have BK8007 := Aside0.mk hbox; clear hb hbox hg; have hcl_ : w7.cell? ⟨gb8005, 0, none⟩ = some (.slice A1 l1.length c1) := (blk_cell BK8005.out 0).trans rfl; have hcn_ : w7.cell? ⟨gb8007, 0, none⟩ = some (.int .i64 a3) := (blk_cell BK8007.out 0).trans rfl) | (go_at_call 73; (with_reducible refine (impl_keptOk.calls k A0 c0 l0 A1 c1 l1 a2 a3 _ _ (Kd.C_below HR0.out HB.out) HC0.out (Kd.C_below HR1.out HB.out) HC1.out A3.out).mono ?_); rintro e w9 ⟨rfl, hb⟩; have m0_ := Aside0.mk (below_step HB.out hb); have m1_ := Aside0.mk (blk_below BK8005.out hb); have m2_ := Aside0.mk (blk_below BK8007.out hb); clear HB BK8005 BK8007; have HB := m0_; have BK8005 := m1_; have BK8007 := m2_; clear m0_ m1_ m2_; clear hcl_ hcn_ hb) | (go_at_call 75; (with_reducible refine (impl_Kept_75.calls A0 c0 l0 t2 _ (Kd.C_below HR0.out HB.out) HC0.out A5.out).mono ?_); rintro e w10 ⟨vc, rfl, ho, hb⟩; obtain ⟨Ac, cc, rfl⟩ := Kd.R_slice ho; have HO := Aside0.mk (Kd.R_lower ho (below_size HB.out)); have m0_ := Aside0.mk (below_step HB.out hb); have m1_ := Aside0.mk (blk_below BK8005.out hb); have m2_ := Aside0.mk (blk_below BK8007.out hb); clear HB BK8005 BK8007; have HB := m0_; have BK8005 := m1_; have BK8007 := m2_; clear m0_ m1_ m2_; clear ho hb) | ((with_reducible refine gate_dst (N := 11) rfl ?_); refine box_event ?hg (N := 11) ?hd (cs := #[.slice none 0 0]) (t := 48) ?hr ?_; (case hd => rfl); (case hg => rfl); (case hr => exact z_9); intro gb8011 hg w11 hbox hb; have GE8011 := Aside0.mk ((z_123) : w.heap.size ≤ gb8011); have NEBK8005_8011 : gb8005 ≠ gb8011 := (by rw [hg]; exact Nat.ne_of_lt (blk_lt BK8005.out)); have NEBK8007_8011 : gb8007 ≠ gb8011 := (by rw [hg]; exact Nat.ne_of_lt (blk_lt BK8007.out)); have m0_ := Aside0.mk (below_step HB.out hb); have m1_ := Aside0.mk (Kd.R_below HO.out hb); have m2_ := Aside0.mk (blk_below BK8005.out hb); have m3_ := Aside0.mk (blk_below BK8007.out hb); clear HB HO BK8005 BK8007; have HB := m0_; have HO := m1_; have BK8005 := m2_; have BK8007 := m3_; clear m0_ m1_ m2_ m3_; have BK8011 := Aside0.mk hbox; clear hb hbox hg; have hcz_ : w11.cell? ⟨gb8011, 0, none⟩ = some (.slice none 0 0) := (blk_cell BK8011.out 0).trans rfl; have hfz_ := blk_frozen BK8011.out 0) | (go_at_call 70; (with_reducible refine (follow_76.calls k gb8011 gb8005 gb8007 A1 c1 l1 (.slice Ac t2.length cc) t2 a2 a3 r1 r2 r3 w _ HR1.out HC1.out ?s1 ?s2 ?s3 ?s4 GE8011.out ?s5 H'.out).mono ?_); (case s1 => exact Kd.R_mono (Kd.R_far (Kd.R_types HO.out BK8011.out (z_5)) (fun _ hk => hk.2) _) (fun _ _ => trivial)); (case s2 => exact blk_put BK8011.out 0 _ rfl); (case s3 => exact blk_far BK8005.out NEBK8005_8011 _); (case s4 => exact blk_far BK8007.out NEBK8007_8011 _); (case s5 => exact below_set HB.out GE8011.out); rintro e w12 ⟨v2, rfl, ho, hbo, hbl, hbn, hb⟩; obtain ⟨Aq, cq, rfl⟩ := Kd.R_slice ho; clear HO HB hcz_ hfz_; have HO := Aside0.mk ho; have HB := Aside0.mk hb; have hcq_ : w12.cell? ⟨gb8011, 0, none⟩ = some (.slice Aq r1.length cq) := (blk_cell hbo 0).trans rfl; clear ho hb hbl hbn))
  refine bodyPost_ret (results_list (rs := [.tmp 8, .tmp 9, .tmp 10]) rfl (z_12) (.tmp (.tmp (.tmp .nil)))) rfl ?_
  exact ⟨_, z_127, HO.out, HB.out⟩
 ·replace c4 := Bool.eq_false_iff.mpr c4
  subst c4
  rw [if_neg (z_12)] at H
  simp only [Option.some.injEq, Prod.mk.injEq] at H
  obtain ⟨rfl, rfl, rfl⟩ := H
  go_enter Try.func49, Try.ntmps49
  go_wp2_with (first | ((with_reducible refine gate_dst (N := 5) rfl ?_); refine box_event ?hg (N := 5) ?hd (cs := #[.slice A1 l1.length c1]) (t := 36) ?hr ?_; (case hd => rfl); (case hg => rfl); (case hr => exact z_9); intro gb8005 hg w5 hbox hb; have GE8005 := Aside0.mk ((z_123) : w.heap.size ≤ gb8005); skip; have m0_ := Aside0.mk (below_step HB.out hb); clear HB; have HB := m0_; clear m0_; have BK8005 := Aside0.mk hbox; clear hb hbox hg; skip) | ((with_reducible refine gate_dst (N := 7) rfl ?_); refine box_event ?hg (N := 7) ?hd (cs := #[.int .i64 a3]) (t := 3) ?hr ?_; (case hd => rfl); (case hg => rfl); (case hr => exact z_9); intro gb8007 hg w7 hbox hb; have GE8007 := Aside0.mk ((z_123) : w.heap.size ≤ gb8007); skip; have m0_ := Aside0.mk (below_step HB.out hb); have m1_ := Aside0.mk (blk_below BK8005.out hb); clear HB BK8005; have HB := m0_; have BK8005 := m1_; clear m0_ m1_; have BK8007 := Aside0.mk hbox; clear hb hbox hg; have hcl_ : w7.cell? ⟨gb8005, 0, none⟩ = some (.slice A1 l1.length c1) := (blk_cell BK8005.out 0).trans rfl; have hcn_ : w7.cell? ⟨gb8007, 0, none⟩ = some (.int .i64 a3) := (blk_cell BK8007.out 0).trans rfl) | (go_at_call 73; (with_reducible refine (impl_keptOk.calls k A0 c0 l0 A1 c1 l1 a2 a3 _ _ (Kd.C_below HR0.out HB.out) HC0.out (Kd.C_below HR1.out HB.out) HC1.out A3.out).mono ?_); rintro e w9 ⟨rfl, hb⟩; have m0_ := Aside0.mk (below_step HB.out hb); have m1_ := Aside0.mk (blk_below BK8005.out hb); have m2_ := Aside0.mk (blk_below BK8007.out hb); clear HB BK8005 BK8007; have HB := m0_; have BK8005 := m1_; have BK8007 := m2_; clear m0_ m1_ m2_; clear hcl_ hcn_ hb))
  refine bodyPost_ret (results_list (rs := [.tmp 8, .tmp 9, .tmp 10]) rfl (z_12) (.tmp (.tmp (.tmp .nil)))) rfl ?_
  exact ⟨_, z_127, Kd.R_nil _ _ _ _ _, HB.out⟩

/-! ### spec_KeptFind: function 50 -/
mutual
def spec_KeptFind.j0 : Nat → List (S83) → List (S26) → ByteArray → Int → Bool → Option ((List (S83)) × Int × Bool)
 | 0, _, _, _, _, _ => none
 | k + 1, x0, x1, x2, x3, x32 => if x32 = true then (some ((([] : List (S83))), 0, false)) else (spec_KeptFind.l0 k x0 x1 x2 x3 0)
def spec_KeptFind.l0 : Nat → List (S83) → List (S26) → ByteArray → Int → Int → Option ((List (S83)) × Int × Bool)
 | 0, _, _, _, _, _ => none
 | k + 1, x0, x1, x2, x3, x11 => if x11 ≤ 4 then ((spec_KeptAsk.f k x0 x1 x2 x3).bind fun bt423 => (if bt423.2.2.1 = 0 then (some (bt423.1, 0, false)) else (if bt423.2.2.1 = 1 then (some (bt423.1, bt423.2.2.2.1, true)) else (spec_KeptFind.l0 k bt423.1 x1 bt423.2.2.2.2.1 x3 (wrap64 (x11 + 1)))))) else (some (x0, 0, false))
end
def spec_KeptFind.f (k : Nat) (l0 : List (S83)) (l1 : List (S26)) (a2 : ByteArray) (a3 : Int) : Option ((List (S83)) × Int × Bool) := (spec_KeptOk.f k l0).bind fun t416 => (if t416 = true then ((spec_NamesOk.f k l1).bind fun t417 => (if t417 = true then ((spec_l19Word.f k a2).bind fun t418 => (if t418 = true then ((spec_l1In.f a3 0 900000).bind fun t419 => (spec_KeptFind.j0 k l0 l1 a2 a3 (!t419))) else (spec_KeptFind.j0 k l0 l1 a2 a3 true))) else (spec_KeptFind.j0 k l0 l1 a2 a3 true))) else (spec_KeptFind.j0 k l0 l1 a2 a3 true))
theorem spec_KeptFind.mono_l : ∀ k, (∀ y0 y1 y2 y3 y4, LeO (spec_KeptFind.j0 k y0 y1 y2 y3 y4) (spec_KeptFind.j0 (k + 1) y0 y1 y2 y3 y4)) ∧ (∀ y0 y1 y2 y3 y4, LeO (spec_KeptFind.l0 k y0 y1 y2 y3 y4) (spec_KeptFind.l0 (k + 1) y0 y1 y2 y3 y4))
 | 0 => ⟨fun _ _ _ _ _ r h => by simp [spec_KeptFind.j0] at h, fun _ _ _ _ _ r h => by simp [spec_KeptFind.l0] at h⟩
 | k + 1 => by
  obtain ⟨ih0, ih1⟩ := spec_KeptFind.mono_l k
  refine ⟨?_, ?_⟩
  ·intro y0 y1 y2 y3 y4
   unfold spec_KeptFind.j0
   repeat' first
   | (with_reducible exact ih0 _ _ _ _ _)
   | (with_reducible exact ih1 _ _ _ _ _)
   | (with_reducible exact spec_KeptAsk.mono _ _ _ _ _)
   | (with_reducible exact spec_KeptOk.mono _ _)
   | (with_reducible exact spec_NamesOk.mono _ _)
   | (with_reducible exact spec_l19Word.mono _ _)
   | (with_reducible exact LeO.refl _)
   | (with_reducible exact LeO.none _)
   | (with_reducible refine LeO.ite ?_ ?_)
   | (with_reducible refine LeO.bind ?_ (fun _ => ?_))
   | exact ih0 _ _ _ _ _
   | exact ih1 _ _ _ _ _
   | exact spec_KeptAsk.mono _ _ _ _ _
   | exact spec_KeptOk.mono _ _
   | exact spec_NamesOk.mono _ _
   | exact spec_l19Word.mono _ _
   | exact LeO.none _
   | refine LeO.ite ?_ ?_
   | refine LeO.bind ?_ (fun _ => ?_)
  ·intro y0 y1 y2 y3 y4
   unfold spec_KeptFind.l0
   repeat' first
   | (with_reducible exact ih0 _ _ _ _ _)
   | (with_reducible exact ih1 _ _ _ _ _)
   | (with_reducible exact spec_KeptAsk.mono _ _ _ _ _)
   | (with_reducible exact spec_KeptOk.mono _ _)
   | (with_reducible exact spec_NamesOk.mono _ _)
   | (with_reducible exact spec_l19Word.mono _ _)
   | (with_reducible exact LeO.refl _)
   | (with_reducible exact LeO.none _)
   | (with_reducible refine LeO.ite ?_ ?_)
   | (with_reducible refine LeO.bind ?_ (fun _ => ?_))
   | exact ih0 _ _ _ _ _
   | exact ih1 _ _ _ _ _
   | exact spec_KeptAsk.mono _ _ _ _ _
   | exact spec_KeptOk.mono _ _
   | exact spec_NamesOk.mono _ _
   | exact spec_l19Word.mono _ _
   | exact LeO.none _
   | refine LeO.ite ?_ ?_
   | refine LeO.bind ?_ (fun _ => ?_)
theorem spec_KeptFind.mono : ∀ a0 a1 a2 a3 k, LeO (spec_KeptFind.f k a0 a1 a2 a3) (spec_KeptFind.f (k + 1) a0 a1 a2 a3) := by
 intro a0 a1 a2 a3 k
 obtain ⟨ih0, ih1⟩ := spec_KeptFind.mono_l k
 unfold spec_KeptFind.f
 repeat' first
   | (with_reducible exact ih0 _ _ _ _ _)
   | (with_reducible exact ih1 _ _ _ _ _)
   | (with_reducible exact spec_KeptAsk.mono _ _ _ _ _)
   | (with_reducible exact spec_KeptOk.mono _ _)
   | (with_reducible exact spec_NamesOk.mono _ _)
   | (with_reducible exact spec_l19Word.mono _ _)
   | (with_reducible exact LeO.refl _)
   | (with_reducible exact LeO.none _)
   | (with_reducible refine LeO.ite ?_ ?_)
   | (with_reducible refine LeO.bind ?_ (fun _ => ?_))
   | exact ih0 _ _ _ _ _
   | exact ih1 _ _ _ _ _
   | exact spec_KeptAsk.mono _ _ _ _ _
   | exact spec_KeptOk.mono _ _
   | exact spec_NamesOk.mono _ _
   | exact spec_l19Word.mono _ _
   | exact LeO.none _
   | refine LeO.ite ?_ ?_
   | refine LeO.bind ?_ (fun _ => ?_)
set_option maxHeartbeats 8000000 in
set_option maxRecDepth 100000 in
theorem spec_KeptFind.calls (k : Nat) (P0_ : Nat → Prop) (A0 : Option Addr) (c0 : Nat) (l0 : List (S83)) (A1 : Option Addr) (c1 : Nat) (l1 : List (S26)) (a2 : ByteArray) (a3 : Int) (r1 : List (S83)) (r2 : Int) (r3 : Bool) (w : World) (hs0 : Kd.V k83 83 w w.heap.size (fun k_ => P0_ k_) (.slice A0 l0.length c0) l0) (hr1 : Kd.C k26 w A1 l1.length l1) (hc1 : l1.length ≤ c1) (h : spec_KeptFind.f k l0 l1 a2 a3 = some (r1, r2, r3)) :
  Calls Try.prog 50 #[.slice A0 l0.length c0, .slice A1 l1.length c1, .string a2, .int .i64 a3] w fun e w' => ∃ v0_ : Value, e = .returned (.tuple #[v0_, .int .i64 r2, .bool r3]) ∧ Kd.V k83 83 w' w.heap.size (fun k_ => (P0_ k_ ∨ w.heap.size ≤ k_)) v0_ r1 ∧ Below w.heap.size w w' := by
 have hu26 := Try.underlying26
 have HO0 := Aside0.mk (show Kd.V k83 83 w w.heap.size (fun k_ => (P0_ k_ ∨ w.heap.size ≤ k_)) (.slice A0 l0.length c0) l0 from Kd.V_mono hs0 (fun k_ hk => .inl hk))
 have HR1 := Aside0.mk hr1
 have HC1 := Aside0.mk hc1
 clear hr1 hc1
 have HB := Aside0.mk (Below.refl w.heap.size w)
 have H : ((spec_KeptOk.f k l0).bind fun t416 => (if t416 = true then ((spec_NamesOk.f k l1).bind fun t417 => (if t417 = true then ((spec_l19Word.f k a2).bind fun t418 => (if t418 = true then ((spec_l1In.f a3 0 900000).bind fun t419 => (spec_KeptFind.j0 k l0 l1 a2 a3 (!t419))) else (spec_KeptFind.j0 k l0 l1 a2 a3 true))) else (spec_KeptFind.j0 k l0 l1 a2 a3 true))) else (spec_KeptFind.j0 k l0 l1 a2 a3 true))) = some (r1, r2, r3) := h
 clear h
 have HC5 := Aside0.mk H
 clear H
 go_enter Try.func50, Try.ntmps50
 go_upto_region 1 with (fail)
 repeat (go_quiet (fail); go_upto_region 1 with (fail))
 go_cut [32] (fun v32 wc => ∃ (kq : Nat) (x32_4 : Bool), v32 = .bool x32_4 ∧ Aside0 (spec_KeptFind.j0 kq l0 l1 a2 a3 x32_4 = some (r1, r2, r3)) ∧ Aside0 (kq ≤ k) ∧ Aside0 (Kd.V k83 83 wc w.heap.size (fun k_ => (P0_ k_ ∨ w.heap.size ≤ k_)) (.slice A0 l0.length c0) l0) ∧ Aside0 (Below w.heap.size w wc))
 case first =>
  have H := HC5.out
  clear HC5
  replace H := Option.bind_eq_some_iff.mp H
  obtain ⟨t416, A60, H⟩ := H
  have A6 := Aside0.mk A60
  clear A60
  by_cases c7 : t416 = true
  ·subst c7
   rw [if_pos rfl] at H
   replace H := Option.bind_eq_some_iff.mp H
   obtain ⟨t417, A80, H⟩ := H
   have A8 := Aside0.mk A80
   clear A80
   by_cases c9 : t417 = true
   ·subst c9
    rw [if_pos rfl] at H
    replace H := Option.bind_eq_some_iff.mp H
    obtain ⟨t418, A100, H⟩ := H
    have A10 := Aside0.mk A100
    clear A100
    by_cases c11 : t418 = true
    ·subst c11
     rw [if_pos rfl] at H
     replace H := Option.bind_eq_some_iff.mp H
     obtain ⟨t419, A120, H⟩ := H
     have A12 := Aside0.mk A120
     clear A120
     have H' := Aside0.mk H
     clear H
     go_wp2_with (first | (go_at_call 34; (with_reducible refine (spec_KeptOk.calls k _ _ l0 true _ ?side1 ?side2 A6.out).mono ?_); (case side1 => exact z_133); (case side2 => exact z_134); rintro e w13 ⟨rfl, hb⟩; have n0_ := Aside0.mk (Kd.V_below (z_135) hb); have n1_ := Aside0.mk (below_step (z_8) hb); clear HO0; clear HB; have HO0 := n0_; have HB := n1_; clear n0_ n1_; (try clear hb); (try clear hb2); (try clear hk); (try clear hi)) | (go_at_call 25; (with_reducible refine (spec_NamesOk.calls k _ _ l1 true _ ?side1 ?side2 A8.out).mono ?_); (case side1 => exact z_60); (case side2 => exact HC1.out); rintro e w14 ⟨rfl, hb⟩; have n0_ := Aside0.mk (Kd.V_below (z_135) hb); have n1_ := Aside0.mk (below_step (z_8) hb); clear HO0; clear HB; have HO0 := n0_; have HB := n1_; clear n0_ n1_; (try clear hb); (try clear hb2); (try clear hk); (try clear hi)) | (go_at_call 54; (with_reducible refine (spec_l19Word.calls k a2 true _ A10.out).mono ?_); rintro e w' ⟨rfl, ⟨nd, rfl⟩⟩; (try first | exact ⟨rfl, _, World.drewN_drewN _ _ _⟩ | exact ⟨rfl, _, Eq.trans (World.drewN_drewN _ _ _) (congrArg (World.drewN _) (Nat.add_assoc _ _ _))⟩)) | (go_at_call 55; (with_reducible refine (spec_l1In.calls a3 0 900000 t419 _ A12.out).mono ?_); rintro e w' ⟨rfl, ⟨nd, rfl⟩⟩; (try first | exact ⟨rfl, _, World.drewN_drewN _ _ _⟩ | exact ⟨rfl, _, Eq.trans (World.drewN_drewN _ _ _) (congrArg (World.drewN _) (Nat.add_assoc _ _ _))⟩)))
     repeat (go_quiet (first | (go_at_call 34; (with_reducible refine (spec_KeptOk.calls k _ _ l0 true _ ?side1 ?side2 A6.out).mono ?_); (case side1 => exact z_133); (case side2 => exact z_134); rintro e w13 ⟨rfl, hb⟩; have n0_ := Aside0.mk (Kd.V_below (z_135) hb); have n1_ := Aside0.mk (below_step (z_8) hb); clear HO0; clear HB; have HO0 := n0_; have HB := n1_; clear n0_ n1_; (try clear hb); (try clear hb2); (try clear hk); (try clear hi)) | (go_at_call 25; (with_reducible refine (spec_NamesOk.calls k _ _ l1 true _ ?side1 ?side2 A8.out).mono ?_); (case side1 => exact z_60); (case side2 => exact HC1.out); rintro e w14 ⟨rfl, hb⟩; have n0_ := Aside0.mk (Kd.V_below (z_135) hb); have n1_ := Aside0.mk (below_step (z_8) hb); clear HO0; clear HB; have HO0 := n0_; have HB := n1_; clear n0_ n1_; (try clear hb); (try clear hb2); (try clear hk); (try clear hi)) | (go_at_call 54; (with_reducible refine (spec_l19Word.calls k a2 true _ A10.out).mono ?_); rintro e w' ⟨rfl, ⟨nd, rfl⟩⟩; (try first | exact ⟨rfl, _, World.drewN_drewN _ _ _⟩ | exact ⟨rfl, _, Eq.trans (World.drewN_drewN _ _ _) (congrArg (World.drewN _) (Nat.add_assoc _ _ _))⟩)) | (go_at_call 55; (with_reducible refine (spec_l1In.calls a3 0 900000 t419 _ A12.out).mono ?_); rintro e w' ⟨rfl, ⟨nd, rfl⟩⟩; (try first | exact ⟨rfl, _, World.drewN_drewN _ _ _⟩ | exact ⟨rfl, _, Eq.trans (World.drewN_drewN _ _ _) (congrArg (World.drewN _) (Nat.add_assoc _ _ _))⟩))); try go_wp2_with (first | (go_at_call 34; (with_reducible refine (spec_KeptOk.calls k _ _ l0 true _ ?side1 ?side2 A6.out).mono ?_); (case side1 => exact z_133); (case side2 => exact z_134); rintro e w13 ⟨rfl, hb⟩; have n0_ := Aside0.mk (Kd.V_below (z_135) hb); have n1_ := Aside0.mk (below_step (z_8) hb); clear HO0; clear HB; have HO0 := n0_; have HB := n1_; clear n0_ n1_; (try clear hb); (try clear hb2); (try clear hk); (try clear hi)) | (go_at_call 25; (with_reducible refine (spec_NamesOk.calls k _ _ l1 true _ ?side1 ?side2 A8.out).mono ?_); (case side1 => exact z_60); (case side2 => exact HC1.out); rintro e w14 ⟨rfl, hb⟩; have n0_ := Aside0.mk (Kd.V_below (z_135) hb); have n1_ := Aside0.mk (below_step (z_8) hb); clear HO0; clear HB; have HO0 := n0_; have HB := n1_; clear n0_ n1_; (try clear hb); (try clear hb2); (try clear hk); (try clear hi)) | (go_at_call 54; (with_reducible refine (spec_l19Word.calls k a2 true _ A10.out).mono ?_); rintro e w' ⟨rfl, ⟨nd, rfl⟩⟩; (try first | exact ⟨rfl, _, World.drewN_drewN _ _ _⟩ | exact ⟨rfl, _, Eq.trans (World.drewN_drewN _ _ _) (congrArg (World.drewN _) (Nat.add_assoc _ _ _))⟩)) | (go_at_call 55; (with_reducible refine (spec_l1In.calls a3 0 900000 t419 _ A12.out).mono ?_); rintro e w' ⟨rfl, ⟨nd, rfl⟩⟩; (try first | exact ⟨rfl, _, World.drewN_drewN _ _ _⟩ | exact ⟨rfl, _, Eq.trans (World.drewN_drewN _ _ _) (congrArg (World.drewN _) (Nat.add_assoc _ _ _))⟩))))
     go_meet
     case rel => exact ⟨_, (!t419), (z_3), H', ⟨z_23⟩, ⟨z_135⟩, ⟨z_8⟩⟩
    ·replace c11 := Bool.eq_false_iff.mpr c11
     subst c11
     rw [if_neg (show ¬ (false = true) by decide)] at H
     have H' := Aside0.mk H
     clear H
     go_wp2_with (first | (go_at_call 34; (with_reducible refine (spec_KeptOk.calls k _ _ l0 true _ ?side1 ?side2 A6.out).mono ?_); (case side1 => exact z_133); (case side2 => exact z_134); rintro e w15 ⟨rfl, hb⟩; have n0_ := Aside0.mk (Kd.V_below (z_135) hb); have n1_ := Aside0.mk (below_step (z_8) hb); clear HO0; clear HB; have HO0 := n0_; have HB := n1_; clear n0_ n1_; (try clear hb); (try clear hb2); (try clear hk); (try clear hi)) | (go_at_call 25; (with_reducible refine (spec_NamesOk.calls k _ _ l1 true _ ?side1 ?side2 A8.out).mono ?_); (case side1 => exact z_60); (case side2 => exact HC1.out); rintro e w16 ⟨rfl, hb⟩; have n0_ := Aside0.mk (Kd.V_below (z_135) hb); have n1_ := Aside0.mk (below_step (z_8) hb); clear HO0; clear HB; have HO0 := n0_; have HB := n1_; clear n0_ n1_; (try clear hb); (try clear hb2); (try clear hk); (try clear hi)) | (go_at_call 54; (with_reducible refine (spec_l19Word.calls k a2 false _ A10.out).mono ?_); rintro e w' ⟨rfl, ⟨nd, rfl⟩⟩; (try first | exact ⟨rfl, _, World.drewN_drewN _ _ _⟩ | exact ⟨rfl, _, Eq.trans (World.drewN_drewN _ _ _) (congrArg (World.drewN _) (Nat.add_assoc _ _ _))⟩)))
     repeat (go_quiet (first | (go_at_call 34; (with_reducible refine (spec_KeptOk.calls k _ _ l0 true _ ?side1 ?side2 A6.out).mono ?_); (case side1 => exact z_133); (case side2 => exact z_134); rintro e w15 ⟨rfl, hb⟩; have n0_ := Aside0.mk (Kd.V_below (z_135) hb); have n1_ := Aside0.mk (below_step (z_8) hb); clear HO0; clear HB; have HO0 := n0_; have HB := n1_; clear n0_ n1_; (try clear hb); (try clear hb2); (try clear hk); (try clear hi)) | (go_at_call 25; (with_reducible refine (spec_NamesOk.calls k _ _ l1 true _ ?side1 ?side2 A8.out).mono ?_); (case side1 => exact z_60); (case side2 => exact HC1.out); rintro e w16 ⟨rfl, hb⟩; have n0_ := Aside0.mk (Kd.V_below (z_135) hb); have n1_ := Aside0.mk (below_step (z_8) hb); clear HO0; clear HB; have HO0 := n0_; have HB := n1_; clear n0_ n1_; (try clear hb); (try clear hb2); (try clear hk); (try clear hi)) | (go_at_call 54; (with_reducible refine (spec_l19Word.calls k a2 false _ A10.out).mono ?_); rintro e w' ⟨rfl, ⟨nd, rfl⟩⟩; (try first | exact ⟨rfl, _, World.drewN_drewN _ _ _⟩ | exact ⟨rfl, _, Eq.trans (World.drewN_drewN _ _ _) (congrArg (World.drewN _) (Nat.add_assoc _ _ _))⟩))); try go_wp2_with (first | (go_at_call 34; (with_reducible refine (spec_KeptOk.calls k _ _ l0 true _ ?side1 ?side2 A6.out).mono ?_); (case side1 => exact z_133); (case side2 => exact z_134); rintro e w15 ⟨rfl, hb⟩; have n0_ := Aside0.mk (Kd.V_below (z_135) hb); have n1_ := Aside0.mk (below_step (z_8) hb); clear HO0; clear HB; have HO0 := n0_; have HB := n1_; clear n0_ n1_; (try clear hb); (try clear hb2); (try clear hk); (try clear hi)) | (go_at_call 25; (with_reducible refine (spec_NamesOk.calls k _ _ l1 true _ ?side1 ?side2 A8.out).mono ?_); (case side1 => exact z_60); (case side2 => exact HC1.out); rintro e w16 ⟨rfl, hb⟩; have n0_ := Aside0.mk (Kd.V_below (z_135) hb); have n1_ := Aside0.mk (below_step (z_8) hb); clear HO0; clear HB; have HO0 := n0_; have HB := n1_; clear n0_ n1_; (try clear hb); (try clear hb2); (try clear hk); (try clear hi)) | (go_at_call 54; (with_reducible refine (spec_l19Word.calls k a2 false _ A10.out).mono ?_); rintro e w' ⟨rfl, ⟨nd, rfl⟩⟩; (try first | exact ⟨rfl, _, World.drewN_drewN _ _ _⟩ | exact ⟨rfl, _, Eq.trans (World.drewN_drewN _ _ _) (congrArg (World.drewN _) (Nat.add_assoc _ _ _))⟩))))
     go_meet
     case rel => exact ⟨_, (true), (z_3), H', ⟨z_23⟩, ⟨z_135⟩, ⟨z_8⟩⟩
   ·replace c9 := Bool.eq_false_iff.mpr c9
    subst c9
    rw [if_neg (show ¬ (false = true) by decide)] at H
    have H' := Aside0.mk H
    clear H
    go_wp2_with (first | (go_at_call 34; (with_reducible refine (spec_KeptOk.calls k _ _ l0 true _ ?side1 ?side2 A6.out).mono ?_); (case side1 => exact z_133); (case side2 => exact z_134); rintro e w17 ⟨rfl, hb⟩; have n0_ := Aside0.mk (Kd.V_below (z_135) hb); have n1_ := Aside0.mk (below_step (z_8) hb); clear HO0; clear HB; have HO0 := n0_; have HB := n1_; clear n0_ n1_; (try clear hb); (try clear hb2); (try clear hk); (try clear hi)) | (go_at_call 25; (with_reducible refine (spec_NamesOk.calls k _ _ l1 false _ ?side1 ?side2 A8.out).mono ?_); (case side1 => exact z_60); (case side2 => exact HC1.out); rintro e w18 ⟨rfl, hb⟩; have n0_ := Aside0.mk (Kd.V_below (z_135) hb); have n1_ := Aside0.mk (below_step (z_8) hb); clear HO0; clear HB; have HO0 := n0_; have HB := n1_; clear n0_ n1_; (try clear hb); (try clear hb2); (try clear hk); (try clear hi)))
    repeat (go_quiet (first | (go_at_call 34; (with_reducible refine (spec_KeptOk.calls k _ _ l0 true _ ?side1 ?side2 A6.out).mono ?_); (case side1 => exact z_133); (case side2 => exact z_134); rintro e w17 ⟨rfl, hb⟩; have n0_ := Aside0.mk (Kd.V_below (z_135) hb); have n1_ := Aside0.mk (below_step (z_8) hb); clear HO0; clear HB; have HO0 := n0_; have HB := n1_; clear n0_ n1_; (try clear hb); (try clear hb2); (try clear hk); (try clear hi)) | (go_at_call 25; (with_reducible refine (spec_NamesOk.calls k _ _ l1 false _ ?side1 ?side2 A8.out).mono ?_); (case side1 => exact z_60); (case side2 => exact HC1.out); rintro e w18 ⟨rfl, hb⟩; have n0_ := Aside0.mk (Kd.V_below (z_135) hb); have n1_ := Aside0.mk (below_step (z_8) hb); clear HO0; clear HB; have HO0 := n0_; have HB := n1_; clear n0_ n1_; (try clear hb); (try clear hb2); (try clear hk); (try clear hi))); try go_wp2_with (first | (go_at_call 34; (with_reducible refine (spec_KeptOk.calls k _ _ l0 true _ ?side1 ?side2 A6.out).mono ?_); (case side1 => exact z_133); (case side2 => exact z_134); rintro e w17 ⟨rfl, hb⟩; have n0_ := Aside0.mk (Kd.V_below (z_135) hb); have n1_ := Aside0.mk (below_step (z_8) hb); clear HO0; clear HB; have HO0 := n0_; have HB := n1_; clear n0_ n1_; (try clear hb); (try clear hb2); (try clear hk); (try clear hi)) | (go_at_call 25; (with_reducible refine (spec_NamesOk.calls k _ _ l1 false _ ?side1 ?side2 A8.out).mono ?_); (case side1 => exact z_60); (case side2 => exact HC1.out); rintro e w18 ⟨rfl, hb⟩; have n0_ := Aside0.mk (Kd.V_below (z_135) hb); have n1_ := Aside0.mk (below_step (z_8) hb); clear HO0; clear HB; have HO0 := n0_; have HB := n1_; clear n0_ n1_; (try clear hb); (try clear hb2); (try clear hk); (try clear hi))))
    go_meet
    case rel => exact ⟨_, (true), (z_3), H', ⟨z_23⟩, ⟨z_135⟩, ⟨z_8⟩⟩
  ·replace c7 := Bool.eq_false_iff.mpr c7
   subst c7
   rw [if_neg (show ¬ (false = true) by decide)] at H
   have H' := Aside0.mk H
   clear H
   go_wp2_with (first | (go_at_call 34; (with_reducible refine (spec_KeptOk.calls k _ _ l0 false _ ?side1 ?side2 A6.out).mono ?_); (case side1 => exact z_133); (case side2 => exact z_134); rintro e w19 ⟨rfl, hb⟩; have n0_ := Aside0.mk (Kd.V_below (z_135) hb); have n1_ := Aside0.mk (below_step (z_8) hb); clear HO0; clear HB; have HO0 := n0_; have HB := n1_; clear n0_ n1_; (try clear hb); (try clear hb2); (try clear hk); (try clear hi)))
   repeat (go_quiet (first | (go_at_call 34; (with_reducible refine (spec_KeptOk.calls k _ _ l0 false _ ?side1 ?side2 A6.out).mono ?_); (case side1 => exact z_133); (case side2 => exact z_134); rintro e w19 ⟨rfl, hb⟩; have n0_ := Aside0.mk (Kd.V_below (z_135) hb); have n1_ := Aside0.mk (below_step (z_8) hb); clear HO0; clear HB; have HO0 := n0_; have HB := n1_; clear n0_ n1_; (try clear hb); (try clear hb2); (try clear hk); (try clear hi))); try go_wp2_with (first | (go_at_call 34; (with_reducible refine (spec_KeptOk.calls k _ _ l0 false _ ?side1 ?side2 A6.out).mono ?_); (case side1 => exact z_133); (case side2 => exact z_134); rintro e w19 ⟨rfl, hb⟩; have n0_ := Aside0.mk (Kd.V_below (z_135) hb); have n1_ := Aside0.mk (below_step (z_8) hb); clear HO0; clear HB; have HO0 := n0_; have HB := n1_; clear n0_ n1_; (try clear hb); (try clear hb2); (try clear hk); (try clear hi))))
   go_meet
   case rel => exact ⟨_, (true), (z_3), H', ⟨z_23⟩, ⟨z_135⟩, ⟨z_8⟩⟩
 case rest =>
  clear HC5
  try clear c1
  try clear p2
  try clear c5
  try clear c7
  try clear c9
  try clear c11
  obtain ⟨kq, x32_4, rfl, HA, HJ4, HO_0, HB⟩ := hcut
  cases kq with
  | zero => exact absurd HA.out (by simp [spec_KeptFind.j0])
  | succ kj4 =>
   have H := HA.out
   clear HA
   simp only [spec_KeptFind.j0] at H
   by_cases c20 : x32_4 = true
   ·subst c20
    rw [if_pos rfl] at H
    obtain ⟨y420, hy420⟩ : ∃ y_ : List (S83), y_ = (([] : List (S83))) := ⟨_, rfl⟩
    replace H : (some (y420, 0, false)) = some (r1, r2, r3) := by first | (rw [hy420]; with_reducible exact H) | (have H2_ := (Option.bind_some _ _).symm.trans H; rw [hy420]; with_reducible exact H2_) | (have H2_ := (Option.bind_some _ _).symm.trans H; with_reducible exact H2_) | with_reducible exact H | (rw [hy420]; exact H) | exact H
    have Ny420 := Aside0.mk hy420
    clear hy420
    simp only [Option.some.injEq, Prod.mk.injEq] at H
    obtain ⟨rfl, rfl, rfl⟩ := H
    go_wp2_with (first | ((with_reducible refine gate_dst (N := 33) rfl ?_); refine Kd.R_lit k83 _ 83 ?hg (N := 33) ?hd (xs := ([] : List (S83))) (inner := []) (ok := fun _ => True) (okp := fun _ => True) ?hr ?hp (fun _ hk => hk) trivial (Below.refl _ _) (Nat.le_refl _) (z_12) ?_; (case hd => rfl); (case hg => rfl); (case hr => exact z_9); (case hp => exact z_44); intro v421 w21 ho22 hb hg_ hnew_; clear hg_ hnew_; (first | rw [← Ny420.out] at ho22 | (simp only [Int.reduceToNat] at ho22; rw [← Ny420.out] at ho22)); have n0_ := Aside0.mk (Kd.V_elder' (z_136) (Kd.R_base ho22) hb); have n1_ := Aside0.mk (Kd.R_lower (Kd.R_newM (M := fun k_ => (w.heap.size ≤ k_)) ho22 (below_size (z_8)) (fun k_ h_ => h_)) (below_size (z_8))); have n2_ := Aside0.mk (below_step (z_8) hb); clear HO_0; clear HB; have HO_0 := n0_; have HO422 := n1_; have HB := n2_; clear n0_ n1_ n2_; clear hb ho22))
    repeat (go_quiet (first | ((with_reducible refine gate_dst (N := 33) rfl ?_); refine Kd.R_lit k83 _ 83 ?hg (N := 33) ?hd (xs := ([] : List (S83))) (inner := []) (ok := fun _ => True) (okp := fun _ => True) ?hr ?hp (fun _ hk => hk) trivial (Below.refl _ _) (Nat.le_refl _) (z_12) ?_; (case hd => rfl); (case hg => rfl); (case hr => exact z_9); (case hp => exact z_44); intro v421 w21 ho22 hb hg_ hnew_; clear hg_ hnew_; (first | rw [← Ny420.out] at ho22 | (simp only [Int.reduceToNat] at ho22; rw [← Ny420.out] at ho22)); have n0_ := Aside0.mk (Kd.V_elder' (z_136) (Kd.R_base ho22) hb); have n1_ := Aside0.mk (Kd.R_lower (Kd.R_newM (M := fun k_ => (w.heap.size ≤ k_)) ho22 (below_size (z_8)) (fun k_ h_ => h_)) (below_size (z_8))); have n2_ := Aside0.mk (below_step (z_8) hb); clear HO_0; clear HB; have HO_0 := n0_; have HO422 := n1_; have HB := n2_; clear n0_ n1_ n2_; clear hb ho22)); try go_wp2_with (first | ((with_reducible refine gate_dst (N := 33) rfl ?_); refine Kd.R_lit k83 _ 83 ?hg (N := 33) ?hd (xs := ([] : List (S83))) (inner := []) (ok := fun _ => True) (okp := fun _ => True) ?hr ?hp (fun _ hk => hk) trivial (Below.refl _ _) (Nat.le_refl _) (z_12) ?_; (case hd => rfl); (case hg => rfl); (case hr => exact z_9); (case hp => exact z_44); intro v421 w21 ho22 hb hg_ hnew_; clear hg_ hnew_; (first | rw [← Ny420.out] at ho22 | (simp only [Int.reduceToNat] at ho22; rw [← Ny420.out] at ho22)); have n0_ := Aside0.mk (Kd.V_elder' (z_136) (Kd.R_base ho22) hb); have n1_ := Aside0.mk (Kd.R_lower (Kd.R_newM (M := fun k_ => (w.heap.size ≤ k_)) ho22 (below_size (z_8)) (fun k_ h_ => h_)) (below_size (z_8))); have n2_ := Aside0.mk (below_step (z_8) hb); clear HO_0; clear HB; have HO_0 := n0_; have HO422 := n1_; have HB := n2_; clear n0_ n1_ n2_; clear hb ho22)))
    go_ret3
    exact ⟨_, z_13, Kd.V_mono (Kd.R_V (by (with_reducible repeat (first | apply Kd.R_alloc | apply Kd.R_drewN | apply Kd.R_drew)); exact Kd.R_mono HO422.out (fun _ hk => hk.1))) (fun k_ hk => z_137), z_8⟩
   ·replace c20 := Bool.eq_false_iff.mpr c20
    subst c20
    rw [if_neg (show ¬ (false = true) by decide)] at H
    have H' := Aside0.mk H
    clear H
    go_wp2
    repeat (go_quiet (fail); try go_wp2)
    go_loopg [0, 2, 11] kj4 (fun kq v0 v2 v11 w' => ∃ (x0_2 : List (S83)) (x2_2 : ByteArray) (x11_2 : Int), v2 = .string x2_2 ∧ v11 = .int .i64 x11_2 ∧ Aside0 (spec_KeptFind.l0 kq x0_2 l1 x2_2 a3 x11_2 = some (r1, r2, r3)) ∧ Aside0 (kq ≤ kj4) ∧ Aside0 (Kd.V k83 83 w' w.heap.size (fun k_ => (P0_ k_ ∨ w.heap.size ≤ k_)) v0 x0_2) ∧ Aside0 (Below w.heap.size w w'))
    case atStart => exact ⟨(l0), (a2), (0), (z_3), (z_3), H', ⟨Nat.le_refl _⟩, ⟨z_136⟩, ⟨z_8⟩⟩
    case round =>
     clear H'
     try clear c1
     try clear c2
     try clear p2
     try clear c5
     try clear c7
     try clear c9
     try clear c11
     try clear c20
     try clear p2
     obtain ⟨x0_2, x2_2, x11_2, rfl, rfl, HA, HK2, HO_0, HB⟩ := hrel
     cases gk with
     | zero => exact absurd HA.out (by simp [spec_KeptFind.l0])
     | succ k2 =>
      have H := HA.out
      clear HA
      simp only [spec_KeptFind.l0] at H
      by_cases c23 : x11_2 ≤ 4
      ·rw [if_pos c23] at H
       have c23b0 : decide (x11_2 ≤ 4) = true := decide_eq_true c23
       clear c23
       replace H := Option.bind_eq_some_iff.mp H
       obtain ⟨⟨t423, t426, t427, t428, t429, t430, t431⟩, A240, H⟩ := H
       replace H : (if t427 = 0 then (some (t423, 0, false)) else (if t427 = 1 then (some (t423, t428, true)) else (spec_KeptFind.l0 k2 t423 l1 t429 a3 (wrap64 (x11_2 + 1))))) = some (r1, r2, r3) := H
       have A24 := Aside0.mk A240
       clear A240
       by_cases c25 : t427 = 0
       ·rw [if_pos c25] at H
        have c25b0 : (t427 == 0) = true := beq_iff_eq.mpr c25
        have c25b1 : (t427 != 0) = false := bne_eq_false_iff_eq.mpr c25
        clear c25
        simp only [Option.some.injEq, Prod.mk.injEq] at H
        obtain ⟨rfl, rfl, rfl⟩ := H
        obtain ⟨Ao26, co26, eo26⟩ := Kd.V_slice HO_0.out
        subst eo26
        go_wp2_with (first | (go_at_call 45; (with_reducible refine (spec_KeptAsk.calls k2 _ _ x0_2 _ _ l1 x2_2 a3 t423 t426 t427 t428 t429 t430 t431 _ ?side1 ?side2 ?side3 ?side4 A24.out).mono ?_); (case side1 => exact z_138); (case side2 => exact z_139); (case side3 => exact z_60); (case side4 => exact HC1.out); rintro e w27 ⟨v424, rfl, ho0, hb⟩; have n0_ := Aside0.mk (Kd.V_elder' (z_136) (Kd.Q_base ho0) hb); have n1_ := Aside0.mk (Kd.Q_lower (Kd.Q_newM (M := fun k_ => (w.heap.size ≤ k_)) ho0 (below_size (z_8)) (fun k_ h_ => h_)) (below_size (z_8))); have n2_ := Aside0.mk (below_step (z_8) hb); clear HO_0; clear HB; have HO_0 := n0_; have HO425 := n1_; have HB := n2_; clear n0_ n1_ n2_; (try clear hb); (try clear hb2); (try clear hk); (try clear hi); (try clear ho0)) | ((with_reducible refine gate_dst (N := 13) rfl ?_); refine box_event ?hg (N := 13) ?hd (cs := #[.string (⟨#[]⟩ : ByteArray), .int .i64 0, .int .i64 0, .string (⟨#[]⟩ : ByteArray), .int .i64 0]) (t := 26) ?hr ?_; (case hd => rfl); (case hg => rfl); (case hr => exact z_9); intro gb432 hg w28 hbox hb; have n0_ := Aside0.mk (Kd.V_below (Kd.V_elderB (z_136) gb432 (Nat.le_of_eq hg.symm)) hb); have n1_ := Aside0.mk (Kd.Q_below (z_140) hb); have n2_ := Aside0.mk (below_step (z_8) hb); have n3_ := Aside0.mk (hbox); have n4_ := Aside0.mk ((z_20 : w.heap.size ≤ gb432)); have n5_ := Aside0.mk ((z_20 : w.heap.size ≤ gb432)); clear HO_0; clear HO425; clear HB; have HO_0 := n0_; have HO425 := n1_; have HB := n2_; have BK432 := n3_; have GW432 := n4_; have GE432 := n5_; clear n0_ n1_ n2_ n3_ n4_ n5_; clear hb hbox hg; have hcz29_0 : w28.cell? ⟨gb432, 0, none⟩ = some (.string (⟨#[]⟩ : ByteArray)) := (blk_cell BK432.out 0).trans rfl; have hcz29_1 : w28.cell? ⟨gb432, 1, none⟩ = some (.int .i64 0) := (blk_cell BK432.out 1).trans rfl; have hcz29_2 : w28.cell? ⟨gb432, 2, none⟩ = some (.int .i64 0) := (blk_cell BK432.out 2).trans rfl; have hcz29_3 : w28.cell? ⟨gb432, 3, none⟩ = some (.string (⟨#[]⟩ : ByteArray)) := (blk_cell BK432.out 3).trans rfl; have hcz29_4 : w28.cell? ⟨gb432, 4, none⟩ = some (.int .i64 0) := (blk_cell BK432.out 4).trans rfl; have hfz29_0 := blk_frozen BK432.out 0; have hfz29_1 := blk_frozen BK432.out 1; have hfz29_2 := blk_frozen BK432.out 2; have hfz29_3 := blk_frozen BK432.out 3; have hfz29_4 := blk_frozen BK432.out 4))
        repeat (go_quiet (first | (go_at_call 45; (with_reducible refine (spec_KeptAsk.calls k2 _ _ x0_2 _ _ l1 x2_2 a3 t423 t426 t427 t428 t429 t430 t431 _ ?side1 ?side2 ?side3 ?side4 A24.out).mono ?_); (case side1 => exact z_138); (case side2 => exact z_139); (case side3 => exact z_60); (case side4 => exact HC1.out); rintro e w27 ⟨v424, rfl, ho0, hb⟩; have n0_ := Aside0.mk (Kd.V_elder' (z_136) (Kd.Q_base ho0) hb); have n1_ := Aside0.mk (Kd.Q_lower (Kd.Q_newM (M := fun k_ => (w.heap.size ≤ k_)) ho0 (below_size (z_8)) (fun k_ h_ => h_)) (below_size (z_8))); have n2_ := Aside0.mk (below_step (z_8) hb); clear HO_0; clear HB; have HO_0 := n0_; have HO425 := n1_; have HB := n2_; clear n0_ n1_ n2_; (try clear hb); (try clear hb2); (try clear hk); (try clear hi); (try clear ho0)) | ((with_reducible refine gate_dst (N := 13) rfl ?_); refine box_event ?hg (N := 13) ?hd (cs := #[.string (⟨#[]⟩ : ByteArray), .int .i64 0, .int .i64 0, .string (⟨#[]⟩ : ByteArray), .int .i64 0]) (t := 26) ?hr ?_; (case hd => rfl); (case hg => rfl); (case hr => exact z_9); intro gb432 hg w28 hbox hb; have n0_ := Aside0.mk (Kd.V_below (Kd.V_elderB (z_136) gb432 (Nat.le_of_eq hg.symm)) hb); have n1_ := Aside0.mk (Kd.Q_below (z_140) hb); have n2_ := Aside0.mk (below_step (z_8) hb); have n3_ := Aside0.mk (hbox); have n4_ := Aside0.mk ((z_20 : w.heap.size ≤ gb432)); have n5_ := Aside0.mk ((z_20 : w.heap.size ≤ gb432)); clear HO_0; clear HO425; clear HB; have HO_0 := n0_; have HO425 := n1_; have HB := n2_; have BK432 := n3_; have GW432 := n4_; have GE432 := n5_; clear n0_ n1_ n2_ n3_ n4_ n5_; clear hb hbox hg; have hcz29_0 : w28.cell? ⟨gb432, 0, none⟩ = some (.string (⟨#[]⟩ : ByteArray)) := (blk_cell BK432.out 0).trans rfl; have hcz29_1 : w28.cell? ⟨gb432, 1, none⟩ = some (.int .i64 0) := (blk_cell BK432.out 1).trans rfl; have hcz29_2 : w28.cell? ⟨gb432, 2, none⟩ = some (.int .i64 0) := (blk_cell BK432.out 2).trans rfl; have hcz29_3 : w28.cell? ⟨gb432, 3, none⟩ = some (.string (⟨#[]⟩ : ByteArray)) := (blk_cell BK432.out 3).trans rfl; have hcz29_4 : w28.cell? ⟨gb432, 4, none⟩ = some (.int .i64 0) := (blk_cell BK432.out 4).trans rfl; have hfz29_0 := blk_frozen BK432.out 0; have hfz29_1 := blk_frozen BK432.out 1; have hfz29_2 := blk_frozen BK432.out 2; have hfz29_3 := blk_frozen BK432.out 3; have hfz29_4 := blk_frozen BK432.out 4)); try go_wp2_with (first | (go_at_call 45; (with_reducible refine (spec_KeptAsk.calls k2 _ _ x0_2 _ _ l1 x2_2 a3 t423 t426 t427 t428 t429 t430 t431 _ ?side1 ?side2 ?side3 ?side4 A24.out).mono ?_); (case side1 => exact z_138); (case side2 => exact z_139); (case side3 => exact z_60); (case side4 => exact HC1.out); rintro e w27 ⟨v424, rfl, ho0, hb⟩; have n0_ := Aside0.mk (Kd.V_elder' (z_136) (Kd.Q_base ho0) hb); have n1_ := Aside0.mk (Kd.Q_lower (Kd.Q_newM (M := fun k_ => (w.heap.size ≤ k_)) ho0 (below_size (z_8)) (fun k_ h_ => h_)) (below_size (z_8))); have n2_ := Aside0.mk (below_step (z_8) hb); clear HO_0; clear HB; have HO_0 := n0_; have HO425 := n1_; have HB := n2_; clear n0_ n1_ n2_; (try clear hb); (try clear hb2); (try clear hk); (try clear hi); (try clear ho0)) | ((with_reducible refine gate_dst (N := 13) rfl ?_); refine box_event ?hg (N := 13) ?hd (cs := #[.string (⟨#[]⟩ : ByteArray), .int .i64 0, .int .i64 0, .string (⟨#[]⟩ : ByteArray), .int .i64 0]) (t := 26) ?hr ?_; (case hd => rfl); (case hg => rfl); (case hr => exact z_9); intro gb432 hg w28 hbox hb; have n0_ := Aside0.mk (Kd.V_below (Kd.V_elderB (z_136) gb432 (Nat.le_of_eq hg.symm)) hb); have n1_ := Aside0.mk (Kd.Q_below (z_140) hb); have n2_ := Aside0.mk (below_step (z_8) hb); have n3_ := Aside0.mk (hbox); have n4_ := Aside0.mk ((z_20 : w.heap.size ≤ gb432)); have n5_ := Aside0.mk ((z_20 : w.heap.size ≤ gb432)); clear HO_0; clear HO425; clear HB; have HO_0 := n0_; have HO425 := n1_; have HB := n2_; have BK432 := n3_; have GW432 := n4_; have GE432 := n5_; clear n0_ n1_ n2_ n3_ n4_ n5_; clear hb hbox hg; have hcz29_0 : w28.cell? ⟨gb432, 0, none⟩ = some (.string (⟨#[]⟩ : ByteArray)) := (blk_cell BK432.out 0).trans rfl; have hcz29_1 : w28.cell? ⟨gb432, 1, none⟩ = some (.int .i64 0) := (blk_cell BK432.out 1).trans rfl; have hcz29_2 : w28.cell? ⟨gb432, 2, none⟩ = some (.int .i64 0) := (blk_cell BK432.out 2).trans rfl; have hcz29_3 : w28.cell? ⟨gb432, 3, none⟩ = some (.string (⟨#[]⟩ : ByteArray)) := (blk_cell BK432.out 3).trans rfl; have hcz29_4 : w28.cell? ⟨gb432, 4, none⟩ = some (.int .i64 0) := (blk_cell BK432.out 4).trans rfl; have hfz29_0 := blk_frozen BK432.out 0; have hfz29_1 := blk_frozen BK432.out 1; have hfz29_2 := blk_frozen BK432.out 2; have hfz29_3 := blk_frozen BK432.out 3; have hfz29_4 := blk_frozen BK432.out 4)))
        go_ret3
        exact ⟨_, z_13, Kd.V_mono (Kd.Q_V (z_141)) (fun k_ hk => z_137), z_142⟩
       ·rw [if_neg c25] at H
        have c25b0 : (t427 == 0) = false := beq_eq_false_iff_ne.mpr c25
        have c25b1 : (t427 != 0) = true := bne_iff_ne.mpr c25
        by_cases c30 : t427 = 1
        ·rw [if_pos c30] at H
         have c30b0 : (t427 == 1) = true := beq_iff_eq.mpr c30
         have c30b1 : (t427 != 1) = false := bne_eq_false_iff_eq.mpr c30
         clear c30
         simp only [Option.some.injEq, Prod.mk.injEq] at H
         obtain ⟨rfl, rfl, rfl⟩ := H
         obtain ⟨Ao31, co31, eo31⟩ := Kd.V_slice HO_0.out
         subst eo31
         go_wp2_with (first | (go_at_call 45; (with_reducible refine (spec_KeptAsk.calls k2 _ _ x0_2 _ _ l1 x2_2 a3 t423 t426 t427 t428 t429 t430 t431 _ ?side1 ?side2 ?side3 ?side4 A24.out).mono ?_); (case side1 => exact z_138); (case side2 => exact z_139); (case side3 => exact z_60); (case side4 => exact HC1.out); rintro e w32 ⟨v424, rfl, ho0, hb⟩; have n0_ := Aside0.mk (Kd.V_elder' (z_136) (Kd.Q_base ho0) hb); have n1_ := Aside0.mk (Kd.Q_lower (Kd.Q_newM (M := fun k_ => (w.heap.size ≤ k_)) ho0 (below_size (z_8)) (fun k_ h_ => h_)) (below_size (z_8))); have n2_ := Aside0.mk (below_step (z_8) hb); clear HO_0; clear HB; have HO_0 := n0_; have HO425 := n1_; have HB := n2_; clear n0_ n1_ n2_; (try clear hb); (try clear hb2); (try clear hk); (try clear hi); (try clear ho0)) | ((with_reducible refine gate_dst (N := 13) rfl ?_); refine box_event ?hg (N := 13) ?hd (cs := #[.string (⟨#[]⟩ : ByteArray), .int .i64 0, .int .i64 0, .string (⟨#[]⟩ : ByteArray), .int .i64 0]) (t := 26) ?hr ?_; (case hd => rfl); (case hg => rfl); (case hr => exact z_9); intro gb432 hg w33 hbox hb; have n0_ := Aside0.mk (Kd.V_below (Kd.V_elderB (z_136) gb432 (Nat.le_of_eq hg.symm)) hb); have n1_ := Aside0.mk (Kd.Q_below (z_140) hb); have n2_ := Aside0.mk (below_step (z_8) hb); have n3_ := Aside0.mk (hbox); have n4_ := Aside0.mk ((z_20 : w.heap.size ≤ gb432)); have n5_ := Aside0.mk ((z_20 : w.heap.size ≤ gb432)); clear HO_0; clear HO425; clear HB; have HO_0 := n0_; have HO425 := n1_; have HB := n2_; have BK432 := n3_; have GW432 := n4_; have GE432 := n5_; clear n0_ n1_ n2_ n3_ n4_ n5_; clear hb hbox hg; have hcz34_0 : w33.cell? ⟨gb432, 0, none⟩ = some (.string (⟨#[]⟩ : ByteArray)) := (blk_cell BK432.out 0).trans rfl; have hcz34_1 : w33.cell? ⟨gb432, 1, none⟩ = some (.int .i64 0) := (blk_cell BK432.out 1).trans rfl; have hcz34_2 : w33.cell? ⟨gb432, 2, none⟩ = some (.int .i64 0) := (blk_cell BK432.out 2).trans rfl; have hcz34_3 : w33.cell? ⟨gb432, 3, none⟩ = some (.string (⟨#[]⟩ : ByteArray)) := (blk_cell BK432.out 3).trans rfl; have hcz34_4 : w33.cell? ⟨gb432, 4, none⟩ = some (.int .i64 0) := (blk_cell BK432.out 4).trans rfl; have hfz34_0 := blk_frozen BK432.out 0; have hfz34_1 := blk_frozen BK432.out 1; have hfz34_2 := blk_frozen BK432.out 2; have hfz34_3 := blk_frozen BK432.out 3; have hfz34_4 := blk_frozen BK432.out 4))
         repeat (go_quiet (first | (go_at_call 45; (with_reducible refine (spec_KeptAsk.calls k2 _ _ x0_2 _ _ l1 x2_2 a3 t423 t426 t427 t428 t429 t430 t431 _ ?side1 ?side2 ?side3 ?side4 A24.out).mono ?_); (case side1 => exact z_138); (case side2 => exact z_139); (case side3 => exact z_60); (case side4 => exact HC1.out); rintro e w32 ⟨v424, rfl, ho0, hb⟩; have n0_ := Aside0.mk (Kd.V_elder' (z_136) (Kd.Q_base ho0) hb); have n1_ := Aside0.mk (Kd.Q_lower (Kd.Q_newM (M := fun k_ => (w.heap.size ≤ k_)) ho0 (below_size (z_8)) (fun k_ h_ => h_)) (below_size (z_8))); have n2_ := Aside0.mk (below_step (z_8) hb); clear HO_0; clear HB; have HO_0 := n0_; have HO425 := n1_; have HB := n2_; clear n0_ n1_ n2_; (try clear hb); (try clear hb2); (try clear hk); (try clear hi); (try clear ho0)) | ((with_reducible refine gate_dst (N := 13) rfl ?_); refine box_event ?hg (N := 13) ?hd (cs := #[.string (⟨#[]⟩ : ByteArray), .int .i64 0, .int .i64 0, .string (⟨#[]⟩ : ByteArray), .int .i64 0]) (t := 26) ?hr ?_; (case hd => rfl); (case hg => rfl); (case hr => exact z_9); intro gb432 hg w33 hbox hb; have n0_ := Aside0.mk (Kd.V_below (Kd.V_elderB (z_136) gb432 (Nat.le_of_eq hg.symm)) hb); have n1_ := Aside0.mk (Kd.Q_below (z_140) hb); have n2_ := Aside0.mk (below_step (z_8) hb); have n3_ := Aside0.mk (hbox); have n4_ := Aside0.mk ((z_20 : w.heap.size ≤ gb432)); have n5_ := Aside0.mk ((z_20 : w.heap.size ≤ gb432)); clear HO_0; clear HO425; clear HB; have HO_0 := n0_; have HO425 := n1_; have HB := n2_; have BK432 := n3_; have GW432 := n4_; have GE432 := n5_; clear n0_ n1_ n2_ n3_ n4_ n5_; clear hb hbox hg; have hcz34_0 : w33.cell? ⟨gb432, 0, none⟩ = some (.string (⟨#[]⟩ : ByteArray)) := (blk_cell BK432.out 0).trans rfl; have hcz34_1 : w33.cell? ⟨gb432, 1, none⟩ = some (.int .i64 0) := (blk_cell BK432.out 1).trans rfl; have hcz34_2 : w33.cell? ⟨gb432, 2, none⟩ = some (.int .i64 0) := (blk_cell BK432.out 2).trans rfl; have hcz34_3 : w33.cell? ⟨gb432, 3, none⟩ = some (.string (⟨#[]⟩ : ByteArray)) := (blk_cell BK432.out 3).trans rfl; have hcz34_4 : w33.cell? ⟨gb432, 4, none⟩ = some (.int .i64 0) := (blk_cell BK432.out 4).trans rfl; have hfz34_0 := blk_frozen BK432.out 0; have hfz34_1 := blk_frozen BK432.out 1; have hfz34_2 := blk_frozen BK432.out 2; have hfz34_3 := blk_frozen BK432.out 3; have hfz34_4 := blk_frozen BK432.out 4)); try go_wp2_with (first | (go_at_call 45; (with_reducible refine (spec_KeptAsk.calls k2 _ _ x0_2 _ _ l1 x2_2 a3 t423 t426 t427 t428 t429 t430 t431 _ ?side1 ?side2 ?side3 ?side4 A24.out).mono ?_); (case side1 => exact z_138); (case side2 => exact z_139); (case side3 => exact z_60); (case side4 => exact HC1.out); rintro e w32 ⟨v424, rfl, ho0, hb⟩; have n0_ := Aside0.mk (Kd.V_elder' (z_136) (Kd.Q_base ho0) hb); have n1_ := Aside0.mk (Kd.Q_lower (Kd.Q_newM (M := fun k_ => (w.heap.size ≤ k_)) ho0 (below_size (z_8)) (fun k_ h_ => h_)) (below_size (z_8))); have n2_ := Aside0.mk (below_step (z_8) hb); clear HO_0; clear HB; have HO_0 := n0_; have HO425 := n1_; have HB := n2_; clear n0_ n1_ n2_; (try clear hb); (try clear hb2); (try clear hk); (try clear hi); (try clear ho0)) | ((with_reducible refine gate_dst (N := 13) rfl ?_); refine box_event ?hg (N := 13) ?hd (cs := #[.string (⟨#[]⟩ : ByteArray), .int .i64 0, .int .i64 0, .string (⟨#[]⟩ : ByteArray), .int .i64 0]) (t := 26) ?hr ?_; (case hd => rfl); (case hg => rfl); (case hr => exact z_9); intro gb432 hg w33 hbox hb; have n0_ := Aside0.mk (Kd.V_below (Kd.V_elderB (z_136) gb432 (Nat.le_of_eq hg.symm)) hb); have n1_ := Aside0.mk (Kd.Q_below (z_140) hb); have n2_ := Aside0.mk (below_step (z_8) hb); have n3_ := Aside0.mk (hbox); have n4_ := Aside0.mk ((z_20 : w.heap.size ≤ gb432)); have n5_ := Aside0.mk ((z_20 : w.heap.size ≤ gb432)); clear HO_0; clear HO425; clear HB; have HO_0 := n0_; have HO425 := n1_; have HB := n2_; have BK432 := n3_; have GW432 := n4_; have GE432 := n5_; clear n0_ n1_ n2_ n3_ n4_ n5_; clear hb hbox hg; have hcz34_0 : w33.cell? ⟨gb432, 0, none⟩ = some (.string (⟨#[]⟩ : ByteArray)) := (blk_cell BK432.out 0).trans rfl; have hcz34_1 : w33.cell? ⟨gb432, 1, none⟩ = some (.int .i64 0) := (blk_cell BK432.out 1).trans rfl; have hcz34_2 : w33.cell? ⟨gb432, 2, none⟩ = some (.int .i64 0) := (blk_cell BK432.out 2).trans rfl; have hcz34_3 : w33.cell? ⟨gb432, 3, none⟩ = some (.string (⟨#[]⟩ : ByteArray)) := (blk_cell BK432.out 3).trans rfl; have hcz34_4 : w33.cell? ⟨gb432, 4, none⟩ = some (.int .i64 0) := (blk_cell BK432.out 4).trans rfl; have hfz34_0 := blk_frozen BK432.out 0; have hfz34_1 := blk_frozen BK432.out 1; have hfz34_2 := blk_frozen BK432.out 2; have hfz34_3 := blk_frozen BK432.out 3; have hfz34_4 := blk_frozen BK432.out 4)))
         go_ret3
         exact ⟨_, z_13, Kd.V_mono (Kd.Q_V (z_141)) (fun k_ hk => z_137), z_142⟩
        ·rw [if_neg c30] at H
         have c30b0 : (t427 == 1) = false := beq_eq_false_iff_ne.mpr c30
         have c30b1 : (t427 != 1) = true := bne_iff_ne.mpr c30
         have H' := Aside0.mk H
         clear H
         obtain ⟨Ao35, co35, eo35⟩ := Kd.V_slice HO_0.out
         subst eo35
         go_wp2_with (first | (go_at_call 45; (with_reducible refine (spec_KeptAsk.calls k2 _ _ x0_2 _ _ l1 x2_2 a3 t423 t426 t427 t428 t429 t430 t431 _ ?side1 ?side2 ?side3 ?side4 A24.out).mono ?_); (case side1 => exact z_138); (case side2 => exact z_139); (case side3 => exact z_60); (case side4 => exact HC1.out); rintro e w36 ⟨v424, rfl, ho0, hb⟩; have n0_ := Aside0.mk (Kd.V_elder' (z_136) (Kd.Q_base ho0) hb); have n1_ := Aside0.mk (Kd.Q_lower (Kd.Q_newM (M := fun k_ => (w.heap.size ≤ k_)) ho0 (below_size (z_8)) (fun k_ h_ => h_)) (below_size (z_8))); have n2_ := Aside0.mk (below_step (z_8) hb); clear HO_0; clear HB; have HO_0 := n0_; have HO425 := n1_; have HB := n2_; clear n0_ n1_ n2_; (try clear hb); (try clear hb2); (try clear hk); (try clear hi); (try clear ho0)) | ((with_reducible refine gate_dst (N := 13) rfl ?_); refine box_event ?hg (N := 13) ?hd (cs := #[.string (⟨#[]⟩ : ByteArray), .int .i64 0, .int .i64 0, .string (⟨#[]⟩ : ByteArray), .int .i64 0]) (t := 26) ?hr ?_; (case hd => rfl); (case hg => rfl); (case hr => exact z_9); intro gb432 hg w37 hbox hb; have n0_ := Aside0.mk (Kd.V_below (Kd.V_elderB (z_136) gb432 (Nat.le_of_eq hg.symm)) hb); have n1_ := Aside0.mk (Kd.Q_below (z_140) hb); have n2_ := Aside0.mk (below_step (z_8) hb); have n3_ := Aside0.mk (hbox); have n4_ := Aside0.mk ((z_20 : w.heap.size ≤ gb432)); have n5_ := Aside0.mk ((z_20 : w.heap.size ≤ gb432)); clear HO_0; clear HO425; clear HB; have HO_0 := n0_; have HO425 := n1_; have HB := n2_; have BK432 := n3_; have GW432 := n4_; have GE432 := n5_; clear n0_ n1_ n2_ n3_ n4_ n5_; clear hb hbox hg; have hcz38_0 : w37.cell? ⟨gb432, 0, none⟩ = some (.string (⟨#[]⟩ : ByteArray)) := (blk_cell BK432.out 0).trans rfl; have hcz38_1 : w37.cell? ⟨gb432, 1, none⟩ = some (.int .i64 0) := (blk_cell BK432.out 1).trans rfl; have hcz38_2 : w37.cell? ⟨gb432, 2, none⟩ = some (.int .i64 0) := (blk_cell BK432.out 2).trans rfl; have hcz38_3 : w37.cell? ⟨gb432, 3, none⟩ = some (.string (⟨#[]⟩ : ByteArray)) := (blk_cell BK432.out 3).trans rfl; have hcz38_4 : w37.cell? ⟨gb432, 4, none⟩ = some (.int .i64 0) := (blk_cell BK432.out 4).trans rfl; have hfz38_0 := blk_frozen BK432.out 0; have hfz38_1 := blk_frozen BK432.out 1; have hfz38_2 := blk_frozen BK432.out 2; have hfz38_3 := blk_frozen BK432.out 3; have hfz38_4 := blk_frozen BK432.out 4))
         repeat (go_quiet (first | (go_at_call 45; (with_reducible refine (spec_KeptAsk.calls k2 _ _ x0_2 _ _ l1 x2_2 a3 t423 t426 t427 t428 t429 t430 t431 _ ?side1 ?side2 ?side3 ?side4 A24.out).mono ?_); (case side1 => exact z_138); (case side2 => exact z_139); (case side3 => exact z_60); (case side4 => exact HC1.out); rintro e w36 ⟨v424, rfl, ho0, hb⟩; have n0_ := Aside0.mk (Kd.V_elder' (z_136) (Kd.Q_base ho0) hb); have n1_ := Aside0.mk (Kd.Q_lower (Kd.Q_newM (M := fun k_ => (w.heap.size ≤ k_)) ho0 (below_size (z_8)) (fun k_ h_ => h_)) (below_size (z_8))); have n2_ := Aside0.mk (below_step (z_8) hb); clear HO_0; clear HB; have HO_0 := n0_; have HO425 := n1_; have HB := n2_; clear n0_ n1_ n2_; (try clear hb); (try clear hb2); (try clear hk); (try clear hi); (try clear ho0)) | ((with_reducible refine gate_dst (N := 13) rfl ?_); refine box_event ?hg (N := 13) ?hd (cs := #[.string (⟨#[]⟩ : ByteArray), .int .i64 0, .int .i64 0, .string (⟨#[]⟩ : ByteArray), .int .i64 0]) (t := 26) ?hr ?_; (case hd => rfl); (case hg => rfl); (case hr => exact z_9); intro gb432 hg w37 hbox hb; have n0_ := Aside0.mk (Kd.V_below (Kd.V_elderB (z_136) gb432 (Nat.le_of_eq hg.symm)) hb); have n1_ := Aside0.mk (Kd.Q_below (z_140) hb); have n2_ := Aside0.mk (below_step (z_8) hb); have n3_ := Aside0.mk (hbox); have n4_ := Aside0.mk ((z_20 : w.heap.size ≤ gb432)); have n5_ := Aside0.mk ((z_20 : w.heap.size ≤ gb432)); clear HO_0; clear HO425; clear HB; have HO_0 := n0_; have HO425 := n1_; have HB := n2_; have BK432 := n3_; have GW432 := n4_; have GE432 := n5_; clear n0_ n1_ n2_ n3_ n4_ n5_; clear hb hbox hg; have hcz38_0 : w37.cell? ⟨gb432, 0, none⟩ = some (.string (⟨#[]⟩ : ByteArray)) := (blk_cell BK432.out 0).trans rfl; have hcz38_1 : w37.cell? ⟨gb432, 1, none⟩ = some (.int .i64 0) := (blk_cell BK432.out 1).trans rfl; have hcz38_2 : w37.cell? ⟨gb432, 2, none⟩ = some (.int .i64 0) := (blk_cell BK432.out 2).trans rfl; have hcz38_3 : w37.cell? ⟨gb432, 3, none⟩ = some (.string (⟨#[]⟩ : ByteArray)) := (blk_cell BK432.out 3).trans rfl; have hcz38_4 : w37.cell? ⟨gb432, 4, none⟩ = some (.int .i64 0) := (blk_cell BK432.out 4).trans rfl; have hfz38_0 := blk_frozen BK432.out 0; have hfz38_1 := blk_frozen BK432.out 1; have hfz38_2 := blk_frozen BK432.out 2; have hfz38_3 := blk_frozen BK432.out 3; have hfz38_4 := blk_frozen BK432.out 4)); try go_wp2_with (first | (go_at_call 45; (with_reducible refine (spec_KeptAsk.calls k2 _ _ x0_2 _ _ l1 x2_2 a3 t423 t426 t427 t428 t429 t430 t431 _ ?side1 ?side2 ?side3 ?side4 A24.out).mono ?_); (case side1 => exact z_138); (case side2 => exact z_139); (case side3 => exact z_60); (case side4 => exact HC1.out); rintro e w36 ⟨v424, rfl, ho0, hb⟩; have n0_ := Aside0.mk (Kd.V_elder' (z_136) (Kd.Q_base ho0) hb); have n1_ := Aside0.mk (Kd.Q_lower (Kd.Q_newM (M := fun k_ => (w.heap.size ≤ k_)) ho0 (below_size (z_8)) (fun k_ h_ => h_)) (below_size (z_8))); have n2_ := Aside0.mk (below_step (z_8) hb); clear HO_0; clear HB; have HO_0 := n0_; have HO425 := n1_; have HB := n2_; clear n0_ n1_ n2_; (try clear hb); (try clear hb2); (try clear hk); (try clear hi); (try clear ho0)) | ((with_reducible refine gate_dst (N := 13) rfl ?_); refine box_event ?hg (N := 13) ?hd (cs := #[.string (⟨#[]⟩ : ByteArray), .int .i64 0, .int .i64 0, .string (⟨#[]⟩ : ByteArray), .int .i64 0]) (t := 26) ?hr ?_; (case hd => rfl); (case hg => rfl); (case hr => exact z_9); intro gb432 hg w37 hbox hb; have n0_ := Aside0.mk (Kd.V_below (Kd.V_elderB (z_136) gb432 (Nat.le_of_eq hg.symm)) hb); have n1_ := Aside0.mk (Kd.Q_below (z_140) hb); have n2_ := Aside0.mk (below_step (z_8) hb); have n3_ := Aside0.mk (hbox); have n4_ := Aside0.mk ((z_20 : w.heap.size ≤ gb432)); have n5_ := Aside0.mk ((z_20 : w.heap.size ≤ gb432)); clear HO_0; clear HO425; clear HB; have HO_0 := n0_; have HO425 := n1_; have HB := n2_; have BK432 := n3_; have GW432 := n4_; have GE432 := n5_; clear n0_ n1_ n2_ n3_ n4_ n5_; clear hb hbox hg; have hcz38_0 : w37.cell? ⟨gb432, 0, none⟩ = some (.string (⟨#[]⟩ : ByteArray)) := (blk_cell BK432.out 0).trans rfl; have hcz38_1 : w37.cell? ⟨gb432, 1, none⟩ = some (.int .i64 0) := (blk_cell BK432.out 1).trans rfl; have hcz38_2 : w37.cell? ⟨gb432, 2, none⟩ = some (.int .i64 0) := (blk_cell BK432.out 2).trans rfl; have hcz38_3 : w37.cell? ⟨gb432, 3, none⟩ = some (.string (⟨#[]⟩ : ByteArray)) := (blk_cell BK432.out 3).trans rfl; have hcz38_4 : w37.cell? ⟨gb432, 4, none⟩ = some (.int .i64 0) := (blk_cell BK432.out 4).trans rfl; have hfz38_0 := blk_frozen BK432.out 0; have hfz38_1 := blk_frozen BK432.out 1; have hfz38_2 := blk_frozen BK432.out 2; have hfz38_3 := blk_frozen BK432.out 3; have hfz38_4 := blk_frozen BK432.out 4)))
         go_roundg k2
         case measure => have := HJ4.out; have := HK2.out; omega
         case rel => exact ⟨(t423), (t429), (wrap64 (x11_2 + 1)), (z_3), (z_3), H', ⟨by have := HJ4.out; have := HK2.out; omega⟩, ⟨Kd.V_mono (Kd.Q_V (z_141)) (fun k_ hk => z_137)⟩, ⟨z_142⟩⟩
      ·rw [if_neg c23] at H
       have c23b0 : decide (x11_2 ≤ 4) = false := decide_eq_false c23
       clear c23
       simp only [Option.some.injEq, Prod.mk.injEq] at H
       obtain ⟨rfl, rfl, rfl⟩ := H
       go_wp2
       repeat (go_quiet (fail); try go_wp2)
       go_ret3
       exact ⟨_, z_13, z_136, z_8⟩

end Go.Proofs.Ytmgnmgobibpjjaa.GFnKeptFind
