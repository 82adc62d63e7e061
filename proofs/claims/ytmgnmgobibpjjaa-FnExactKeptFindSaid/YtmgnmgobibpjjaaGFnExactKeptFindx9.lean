/- What the Go functions that FnExactKeptFind reaches come to, walked step by step; there is no condition beyond those each statement names. -/
import Derived.Test.YtmgnmgobibpjjaaGFnExactKeptFindx0
import Derived.Test.YtmgnmgobibpjjaaGFnExactKeptFindx7
import Derived.Test.YtmgnmgobibpjjaaGFnExactKeptFindx8
namespace Go.Proofs.Ytmgnmgobibpjjaa.GFnExactKeptFind
open Go.RowKit Go.Proofs.YtmgnmgobibpjjaaVExactKeptFind.PrintWords Go.Proofs.YtmgnmgobibpjjaaVExactKeptFind.PrintLast Go.Proofs.YtmgnmgobibpjjaaVExactKeptFind.PrintMore
attribute [local go_sem] max2_int min2_int max_two min_two max_three min_three max_four min_four   -- for this text's walks alone
set_option linter.unusedVariables false
set_option linter.unusedSimpArgs false

/-! ### impl_KeptFind: function 49 -/
def impl_KeptFind.l0 : Nat → List (S26) → ByteArray → Int → List (S83) → Int → Option ((List (S83)) × Int × Bool)
 | 0, _, _, _, _, _ => none
 | k + 1, x1, x2, x3, x11, x12 => if x12 < 5 then ((impl_keep.f k x11 x1 x2 x3).bind fun bt252 => (if bt252.2.2.1 = 1 then (some (bt252.1, bt252.2.2.2.1, true)) else (if bt252.2.2.1 = 0 then (some (bt252.1, 0, false)) else (impl_KeptFind.l0 k x1 bt252.2.2.2.2.1 x3 bt252.1 (wrap64 (x12 + 1)))))) else (some (x11, 0, false))
def impl_KeptFind.f (k : Nat) (l0 : List (S83)) (l1 : List (S26)) (a2 : ByteArray) (a3 : Int) : Option ((List (S83)) × Int × Bool) := (impl_keptOk.f k l0 l1 a2 a3).bind fun t248 => (if t248 = true then ((impl_Kept_75.f l0).bind fun t249 => (impl_KeptFind.l0 k l1 a2 a3 t249 0)) else (some (([] : List (S83)), 0, false)))
theorem impl_KeptFind.mono_l : ∀ k, (∀ y0 y1 y2 y3 y4, LeO (impl_KeptFind.l0 k y0 y1 y2 y3 y4) (impl_KeptFind.l0 (k + 1) y0 y1 y2 y3 y4))
 | 0 => fun _ _ _ _ _ r h => by simp [impl_KeptFind.l0] at h
 | k + 1 => by
  have ih0 := impl_KeptFind.mono_l k
  ·intro y0 y1 y2 y3 y4
   unfold impl_KeptFind.l0
   repeat' first
   | (with_reducible exact ih0 _ _ _ _ _)
   | (with_reducible exact impl_keep.mono _ _ _ _ _)
   | (with_reducible exact impl_keptOk.mono _ _ _ _ _)
   | (with_reducible exact LeO.refl _)
   | (with_reducible exact LeO.none _)
   | (with_reducible refine LeO.ite ?_ ?_)
   | (with_reducible refine LeO.bind ?_ (fun _ => ?_))
   | exact ih0 _ _ _ _ _
   | exact impl_keep.mono _ _ _ _ _
   | exact impl_keptOk.mono _ _ _ _ _
   | exact LeO.none _
   | refine LeO.ite ?_ ?_
   | refine LeO.bind ?_ (fun _ => ?_)
theorem impl_KeptFind.mono : ∀ a0 a1 a2 a3 k, LeO (impl_KeptFind.f k a0 a1 a2 a3) (impl_KeptFind.f (k + 1) a0 a1 a2 a3) := by
 intro a0 a1 a2 a3 k
 have ih0 := impl_KeptFind.mono_l k
 unfold impl_KeptFind.f
 repeat' first
   | (with_reducible exact ih0 _ _ _ _ _)
   | (with_reducible exact impl_keep.mono _ _ _ _ _)
   | (with_reducible exact impl_keptOk.mono _ _ _ _ _)
   | (with_reducible exact LeO.refl _)
   | (with_reducible exact LeO.none _)
   | (with_reducible refine LeO.ite ?_ ?_)
   | (with_reducible refine LeO.bind ?_ (fun _ => ?_))
   | exact ih0 _ _ _ _ _
   | exact impl_keep.mono _ _ _ _ _
   | exact impl_keptOk.mono _ _ _ _ _
   | exact LeO.none _
   | refine LeO.ite ?_ ?_
   | refine LeO.bind ?_ (fun _ => ?_)
set_option maxHeartbeats 8000000 in
set_option maxRecDepth 100000 in
theorem lam_76.calls (k bo bl bn : Nat) (A : Option Addr) (c : Nat) (l : List S26) (v : Value) (xs : List S83) (s : ByteArray) (now : Int) (r1 : List S83) (r2 : ByteArray) (r3 r4 : Int) (r5 : ByteArray) (r6 : Int) (r7 : Bool) (w0 w : World) (hr : Kd.C k26 w0 A l.length l) (hc : l.length ≤ c) (hv : Kd.R k83 83 w w0.heap.size (fun _ => True) v xs) (hbo : w.heap[bo]? = some (.cells #[v] 48 (0, 0))) (hbl : w.heap[bl]? = some (.cells #[.slice A l.length c] 36 (0, 0))) (hbn : w.heap[bn]? = some (.cells #[.int .i64 now] 3 (0, 0))) (hge : w0.heap.size ≤ bo) (hB : Below w0.heap.size w0 w) (h : impl_keep.f k xs l s now = some (r1, r2, r3, r4, r5, r6, r7)) :
  Calls Try.prog 76 #[.string s, .pointer (some ⟨bo, 0, none⟩), .pointer (some ⟨bl, 0, none⟩), .pointer (some ⟨bn, 0, none⟩)] w fun e w' => ∃ v' : Value, e = .returned (.agg #[.string r2, .int .i64 r3, .int .i64 r4, .string r5, .int .i64 r6]) ∧ Kd.R k83 83 w' w0.heap.size (fun _ => True) v' r1 ∧ w'.heap[bo]? = some (.cells #[v'] 48 (0, 0)) ∧ w'.heap[bl]? = some (.cells #[.slice A l.length c] 36 (0, 0)) ∧ w'.heap[bn]? = some (.cells #[.int .i64 now] 3 (0, 0)) ∧ Below w0.heap.size w0 w' := by
 obtain ⟨Ao, co, rfl⟩ := Kd.R_slice hv
 have hu_ := Try.underlying26
 have nl_ : bl ≠ bo := fun e => by rw [e, hbo] at hbl; exact absurd hbl (z_10)
 have nn_ : bn ≠ bo := fun e => by rw [e, hbo] at hbn; exact absurd hbn (z_10)
 have HR := Aside0.mk hr
 have HC := Aside0.mk hc
 have HO := Aside0.mk hv
 have BKo := Aside0.mk hbo
 have BKl := Aside0.mk hbl
 have BKn := Aside0.mk hbn
 have HG := Aside0.mk hge
 have HB := Aside0.mk hB
 have HA := Aside0.mk h
 clear hr hc hv hbo hbl hbn hge hB h
 go_enter Try.func76, Try.ntmps76
 go_upto_region 2 with (first | ((with_reducible refine gate_dst (N := 5) rfl ?_); refine box_event ?hg (N := 5) ?hd (cs := #[.string (⟨#[]⟩ : ByteArray), .int .i64 0, .int .i64 0, .string (⟨#[]⟩ : ByteArray), .int .i64 0]) (t := 26) ?hr ?_; (case hd => rfl); (case hg => rfl); (case hr => exact z_1); intro gb8005 hg w5 hbox hb; have GE8005 := Aside0.mk ((z_92) : w0.heap.size ≤ gb8005); have NEBKo_8005 : bo ≠ gb8005 := (z_93); have NEBKl_8005 : bl ≠ gb8005 := (z_94); have NEBKn_8005 : bn ≠ gb8005 := (z_95); have m0_ := Aside0.mk (below_step HB.out hb); have m1_ := Aside0.mk (Kd.R_below HO.out hb); have m2_ := Aside0.mk (blk_below BKo.out hb); have m3_ := Aside0.mk (blk_below BKl.out hb); have m4_ := Aside0.mk (blk_below BKn.out hb); clear HB HO BKo BKl BKn; have HB := m0_; have HO := m1_; have BKo := m2_; have BKl := m3_; have BKn := m4_; clear m0_ m1_ m2_ m3_ m4_; have BK8005 := Aside0.mk hbox; clear hb hbox hg; skip) | ((with_reducible refine gate_dst (N := 6) rfl ?_); refine box_event ?hg (N := 6) ?hd (cs := #[.string (⟨#[]⟩ : ByteArray), .int .i64 0, .int .i64 0, .string (⟨#[]⟩ : ByteArray), .int .i64 0]) (t := 26) ?hr ?_; (case hd => rfl); (case hg => rfl); (case hr => exact z_1); intro gb8006 hg w6 hbox hb; have GE8006 := Aside0.mk ((z_92) : w0.heap.size ≤ gb8006); have NEBKo_8006 : bo ≠ gb8006 := (z_93); have NEBKl_8006 : bl ≠ gb8006 := (z_94); have NEBKn_8006 : bn ≠ gb8006 := (z_95); have NEBK8005_8006 : gb8005 ≠ gb8006 := (by rw [hg]; exact Nat.ne_of_lt (blk_lt BK8005.out)); have m0_ := Aside0.mk (below_step HB.out hb); have m1_ := Aside0.mk (Kd.R_below HO.out hb); have m2_ := Aside0.mk (blk_below BKo.out hb); have m3_ := Aside0.mk (blk_below BKl.out hb); have m4_ := Aside0.mk (blk_below BKn.out hb); have m5_ := Aside0.mk (blk_below BK8005.out hb); clear HB HO BKo BKl BKn BK8005; have HB := m0_; have HO := m1_; have BKo := m2_; have BKl := m3_; have BKn := m4_; have BK8005 := m5_; clear m0_ m1_ m2_ m3_ m4_ m5_; have BK8006 := Aside0.mk hbox; clear hb hbox hg; have hco_ : w6.cell? ⟨bo, 0, none⟩ = some (.slice Ao xs.length co) := (blk_cell BKo.out 0).trans rfl; have hcl_ : w6.cell? ⟨bl, 0, none⟩ = some (.slice A l.length c) := (blk_cell BKl.out 0).trans rfl; have hcn_ : w6.cell? ⟨bn, 0, none⟩ = some (.int .i64 now) := (blk_cell BKn.out 0).trans rfl))
 go_wp2_with (first | (go_at_call 74; (with_reducible refine (impl_keep.calls k Ao co xs A c l s now r1 r2 r3 r4 r5 r6 r7 _ ?s1 ?s2 ?s3 HC.out HA.out).mono ?_); (case s1 => exact (Kd.R_reads' HO.out).2.2); (case s2 => exact (Kd.R_reads' HO.out).2.1); (case s3 => exact Kd.C_below HR.out HB.out); rintro e w7 ⟨v', rfl, ho, hb⟩; obtain ⟨Aq, cq, rfl⟩ := Kd.R_slice ho; clear hco_ hcl_ hcn_; have HQ := Aside0.mk (Kd.R_lower ho (below_size HB.out)); have m0_ := Aside0.mk (blk_below BKo.out hb); have m1_ := Aside0.mk (blk_below BKl.out hb); have m2_ := Aside0.mk (blk_below BKn.out hb); have m3_ := Aside0.mk (blk_below BK8005.out hb); have m4_ := Aside0.mk (blk_below BK8006.out hb); have m5_ := Aside0.mk (below_step HB.out hb); clear BKo BKl BKn BK8005 BK8006 HB; have BKo := m0_; have BKl := m1_; have BKn := m2_; have BK8005 := m3_; have BK8006 := m4_; have HB := m5_; clear m0_ m1_ m2_ m3_ m4_ m5_; clear HO ho hb; have hco_ : w7.cell? ⟨bo, 0, none⟩ = some (.slice Ao xs.length co) := (blk_cell BKo.out 0).trans rfl; have hfo_ := blk_frozen BKo.out 0; have hcz8005_0 : w7.cell? ⟨gb8005, 0, none⟩ = some (.string (⟨#[]⟩ : ByteArray)) := (blk_cell BK8005.out 0).trans rfl; have hfz8005_0 := blk_frozen BK8005.out 0; have hcz8005_1 : w7.cell? ⟨gb8005, 1, none⟩ = some (.int .i64 0) := (blk_cell BK8005.out 1).trans rfl; have hfz8005_1 := blk_frozen BK8005.out 1; have hcz8005_2 : w7.cell? ⟨gb8005, 2, none⟩ = some (.int .i64 0) := (blk_cell BK8005.out 2).trans rfl; have hfz8005_2 := blk_frozen BK8005.out 2; have hcz8005_3 : w7.cell? ⟨gb8005, 3, none⟩ = some (.string (⟨#[]⟩ : ByteArray)) := (blk_cell BK8005.out 3).trans rfl; have hfz8005_3 := blk_frozen BK8005.out 3; have hcz8005_4 : w7.cell? ⟨gb8005, 4, none⟩ = some (.int .i64 0) := (blk_cell BK8005.out 4).trans rfl; have hfz8005_4 := blk_frozen BK8005.out 4; have hcz8006_0 : w7.cell? ⟨gb8006, 0, none⟩ = some (.string (⟨#[]⟩ : ByteArray)) := (blk_cell BK8006.out 0).trans rfl; have hfz8006_0 := blk_frozen BK8006.out 0; have hcz8006_1 : w7.cell? ⟨gb8006, 1, none⟩ = some (.int .i64 0) := (blk_cell BK8006.out 1).trans rfl; have hfz8006_1 := blk_frozen BK8006.out 1; have hcz8006_2 : w7.cell? ⟨gb8006, 2, none⟩ = some (.int .i64 0) := (blk_cell BK8006.out 2).trans rfl; have hfz8006_2 := blk_frozen BK8006.out 2; have hcz8006_3 : w7.cell? ⟨gb8006, 3, none⟩ = some (.string (⟨#[]⟩ : ByteArray)) := (blk_cell BK8006.out 3).trans rfl; have hfz8006_3 := blk_frozen BK8006.out 3; have hcz8006_4 : w7.cell? ⟨gb8006, 4, none⟩ = some (.int .i64 0) := (blk_cell BK8006.out 4).trans rfl; have hfz8006_4 := blk_frozen BK8006.out 4))
 refine bodyPost_ret (results_cell_row rfl _ _ gb8005 26 #[.string r2, .int .i64 r3, .int .i64 r4, .string r5, .int .i64 r6] (0, 0) _ rfl (by refine blk_put (cs := #[.string r2, .int .i64 r3, .int .i64 r4, .string r5, .int .i64 0]) ?_ 4 _ rfl; refine blk_put (cs := #[.string r2, .int .i64 r3, .int .i64 r4, .string (⟨#[]⟩ : ByteArray), .int .i64 0]) ?_ 3 _ rfl; refine blk_put (cs := #[.string r2, .int .i64 r3, .int .i64 0, .string (⟨#[]⟩ : ByteArray), .int .i64 0]) ?_ 2 _ rfl; refine blk_put (cs := #[.string r2, .int .i64 0, .int .i64 0, .string (⟨#[]⟩ : ByteArray), .int .i64 0]) ?_ 1 _ rfl; refine blk_put (cs := #[.string (⟨#[]⟩ : ByteArray), .int .i64 0, .int .i64 0, .string (⟨#[]⟩ : ByteArray), .int .i64 0]) ?_ 0 _ rfl; (with_reducible refine blk_far ?_ NEBK8005_8006 _); (with_reducible refine blk_far ?_ NEBK8005_8006 _); (with_reducible refine blk_far ?_ NEBK8005_8006 _); (with_reducible refine blk_far ?_ NEBK8005_8006 _); (with_reducible refine blk_far ?_ NEBK8005_8006 _); (with_reducible refine blk_far ?_ (Ne.symm NEBKo_8005) _); exact BK8005.out) Try.underlying26 rfl (z_0)) rfl ?_
 refine ⟨.slice Aq r1.length cq, rfl, Kd.R_mono (ok := fun k_ => ((True ∧ k_ ≠ bo) ∧ k_ ≠ gb8005) ∧ k_ ≠ gb8006) (by (with_reducible refine Kd.R_far ?_ (fun _ hk => hk.1.2) _); (with_reducible refine Kd.R_far ?_ (fun _ hk => hk.1.2) _); (with_reducible refine Kd.R_far ?_ (fun _ hk => hk.1.2) _); (with_reducible refine Kd.R_far ?_ (fun _ hk => hk.1.2) _); (with_reducible refine Kd.R_far ?_ (fun _ hk => hk.1.2) _); (with_reducible refine Kd.R_far ?_ (fun _ hk => hk.2) _); (with_reducible refine Kd.R_far ?_ (fun _ hk => hk.2) _); (with_reducible refine Kd.R_far ?_ (fun _ hk => hk.2) _); (with_reducible refine Kd.R_far ?_ (fun _ hk => hk.2) _); (with_reducible refine Kd.R_far ?_ (fun _ hk => hk.2) _); (with_reducible refine Kd.R_far ?_ (fun _ hk => hk.1.1.2) _); exact Kd.R_types (Kd.R_types (Kd.R_types HQ.out BKo.out (z_19)) BK8005.out (z_19)) BK8006.out (z_19)) (fun _ _ => trivial), (by (with_reducible refine blk_far ?_ NEBKo_8005 _); (with_reducible refine blk_far ?_ NEBKo_8005 _); (with_reducible refine blk_far ?_ NEBKo_8005 _); (with_reducible refine blk_far ?_ NEBKo_8005 _); (with_reducible refine blk_far ?_ NEBKo_8005 _); (with_reducible refine blk_far ?_ NEBKo_8006 _); (with_reducible refine blk_far ?_ NEBKo_8006 _); (with_reducible refine blk_far ?_ NEBKo_8006 _); (with_reducible refine blk_far ?_ NEBKo_8006 _); (with_reducible refine blk_far ?_ NEBKo_8006 _); exact blk_put BKo.out 0 _ rfl), (by (with_reducible refine blk_far ?_ NEBKl_8005 _); (with_reducible refine blk_far ?_ NEBKl_8005 _); (with_reducible refine blk_far ?_ NEBKl_8005 _); (with_reducible refine blk_far ?_ NEBKl_8005 _); (with_reducible refine blk_far ?_ NEBKl_8005 _); (with_reducible refine blk_far ?_ NEBKl_8006 _); (with_reducible refine blk_far ?_ NEBKl_8006 _); (with_reducible refine blk_far ?_ NEBKl_8006 _); (with_reducible refine blk_far ?_ NEBKl_8006 _); (with_reducible refine blk_far ?_ NEBKl_8006 _); (with_reducible refine blk_far ?_ nl_ _); exact BKl.out), (by (with_reducible refine blk_far ?_ NEBKn_8005 _); (with_reducible refine blk_far ?_ NEBKn_8005 _); (with_reducible refine blk_far ?_ NEBKn_8005 _); (with_reducible refine blk_far ?_ NEBKn_8005 _); (with_reducible refine blk_far ?_ NEBKn_8005 _); (with_reducible refine blk_far ?_ NEBKn_8006 _); (with_reducible refine blk_far ?_ NEBKn_8006 _); (with_reducible refine blk_far ?_ NEBKn_8006 _); (with_reducible refine blk_far ?_ NEBKn_8006 _); (with_reducible refine blk_far ?_ NEBKn_8006 _); (with_reducible refine blk_far ?_ nn_ _); exact BKn.out), ?_⟩
 (with_reducible refine below_set ?_ GE8005.out); (with_reducible refine below_set ?_ GE8005.out); (with_reducible refine below_set ?_ GE8005.out); (with_reducible refine below_set ?_ GE8005.out); (with_reducible refine below_set ?_ GE8005.out); (with_reducible refine below_set ?_ GE8006.out); (with_reducible refine below_set ?_ GE8006.out); (with_reducible refine below_set ?_ GE8006.out); (with_reducible refine below_set ?_ GE8006.out); (with_reducible refine below_set ?_ GE8006.out); (with_reducible refine below_set ?_ HG.out); exact HB.out
set_option maxHeartbeats 8000000 in
set_option maxRecDepth 100000 in
theorem follow_76.calls (k bo bl bn : Nat) (A : Option Addr) (c : Nat) (l : List S26) (v : Value) (xs : List S83) (s : ByteArray) (now : Int) (r1 : List S83) (r2 : Int) (r3 : Bool) (w0 w : World) (hr : Kd.C k26 w0 A l.length l) (hc : l.length ≤ c) (hv : Kd.R k83 83 w w0.heap.size (fun _ => True) v xs) (hbo : w.heap[bo]? = some (.cells #[v] 48 (0, 0))) (hbl : w.heap[bl]? = some (.cells #[.slice A l.length c] 36 (0, 0))) (hbn : w.heap[bn]? = some (.cells #[.int .i64 now] 3 (0, 0))) (hge : w0.heap.size ≤ bo) (hB : Below w0.heap.size w0 w) (h : impl_KeptFind.l0 k l s now xs 0 = some (r1, r2, r3)) :
  Calls Try.prog 70 #[.string s, .func (.func 76) #[] #[.pointer (some ⟨bo, 0, none⟩), .pointer (some ⟨bl, 0, none⟩), .pointer (some ⟨bn, 0, none⟩)]] w fun e w' => ∃ v' : Value, e = .returned (.tuple #[.int .i64 r2, .bool r3]) ∧ Kd.R k83 83 w' w0.heap.size (fun _ => True) v' r1 ∧ w'.heap[bo]? = some (.cells #[v'] 48 (0, 0)) ∧ w'.heap[bl]? = some (.cells #[.slice A l.length c] 36 (0, 0)) ∧ w'.heap[bn]? = some (.cells #[.int .i64 now] 3 (0, 0)) ∧ Below w0.heap.size w0 w' := by
 have hu_ := Try.underlying26
 have HR := Aside0.mk hr
 have HC := Aside0.mk hc
 have HO := Aside0.mk hv
 have BKo := Aside0.mk hbo
 have BKl := Aside0.mk hbl
 have BKn := Aside0.mk hbn
 have HG := Aside0.mk hge
 have HB := Aside0.mk hB
 have H' := Aside0.mk h
 clear hr hc hv hbo hbl hbn hge hB h
 go_enter Try.func70, Try.ntmps70
 go_wp2
 go_loopg [0, 7] k (fun kq v0 v7 w' => ∃ (x0 : ByteArray) (x7 : Int) (vv : Value) (xx : List S83), v0 = .string x0 ∧ v7 = .int .i64 x7 ∧ Aside0 (impl_KeptFind.l0 kq l x0 now xx x7 = some (r1, r2, r3)) ∧ Aside0 (kq ≤ k) ∧ Aside0 (Kd.R k83 83 w' w0.heap.size (fun _ => True) vv xx) ∧ Aside0 (w'.heap[bo]? = some (.cells #[vv] 48 (0, 0))) ∧ Aside0 (w'.heap[bl]? = some (.cells #[.slice A l.length c] 36 (0, 0))) ∧ Aside0 (w'.heap[bn]? = some (.cells #[.int .i64 now] 3 (0, 0))) ∧ Aside0 (Below w0.heap.size w0 w'))
 case atStart => exact ⟨s, 0, v, xs, rfl, rfl, H', ⟨Nat.le_refl _⟩, HO, BKo, BKl, BKn, HB⟩
 case round =>
  clear H' HO BKo BKl BKn HB
  obtain ⟨x0, x7, vv, xx, rfl, rfl, HA, HK, HO, BKo, BKl, BKn, HB⟩ := hrel
  cases gk with
  | zero => exact absurd HA.out (by simp [impl_KeptFind.l0])
  | succ k1 =>
   have H := HA.out
   clear HA
   simp only [impl_KeptFind.l0] at H
   by_cases c1 : x7 < 5
   ·rw [if_pos c1] at H
    have c1b0 : decide (x7 < 5) = true := decide_eq_true c1
    clear c1
    replace H := Option.bind_eq_some_iff.mp H
    obtain ⟨⟨q1, q2, q3, q4, q5, q6, q7⟩, A50, H⟩ := H
    dsimp only at H
    have A5 := Aside0.mk A50
    clear A50
    by_cases c2 : q3 = 1
    ·rw [if_pos c2] at H
     have c2b0 : (q3 == 1) = true := beq_iff_eq.mpr c2
     clear c2
     simp only [Option.some.injEq, Prod.mk.injEq] at H
     obtain ⟨rfl, rfl, rfl⟩ := H
     go_wp2_with (first | (go_at_call 76; (with_reducible refine (lam_76.calls k1 bo bl bn A c l vv xx x0 now q1 q2 q3 q4 q5 q6 q7 w0 _ HR.out HC.out HO.out BKo.out BKl.out BKn.out HG.out HB.out A5.out).mono ?_); rintro e w9 ⟨vn, rfl, ho, hbo, hbl, hbn, hb⟩; clear HO BKo BKl BKn HB; have HO := Aside0.mk ho; have BKo := Aside0.mk hbo; have BKl := Aside0.mk hbl; have BKn := Aside0.mk hbn; have HB := Aside0.mk hb; clear ho hbo hbl hbn hb) | ((with_reducible refine gate_dst (N := 6) rfl ?_); refine box_event ?hg (N := 6) ?hd (cs := #[.string (⟨#[]⟩ : ByteArray), .int .i64 0, .int .i64 0, .string (⟨#[]⟩ : ByteArray), .int .i64 0]) (t := 26) ?hr ?_; (case hd => rfl); (case hg => rfl); (case hr => exact z_1); intro gb8006 hg w6 hbox hb; have GE8006 := Aside0.mk ((z_92) : w0.heap.size ≤ gb8006); have NEBKo_8006 : bo ≠ gb8006 := (z_93); have NEBKl_8006 : bl ≠ gb8006 := (z_94); have NEBKn_8006 : bn ≠ gb8006 := (z_95); have m0_ := Aside0.mk (below_step HB.out hb); have m1_ := Aside0.mk (Kd.R_below HO.out hb); have m2_ := Aside0.mk (blk_below BKo.out hb); have m3_ := Aside0.mk (blk_below BKl.out hb); have m4_ := Aside0.mk (blk_below BKn.out hb); clear HB HO BKo BKl BKn; have HB := m0_; have HO := m1_; have BKo := m2_; have BKl := m3_; have BKn := m4_; clear m0_ m1_ m2_ m3_ m4_; have BK8006 := Aside0.mk hbox; clear hb hbox hg; have hcz8006_0 : w6.cell? ⟨gb8006, 0, none⟩ = some (.string (⟨#[]⟩ : ByteArray)) := (blk_cell BK8006.out 0).trans rfl; have hfz8006_0 := blk_frozen BK8006.out 0; have hcz8006_1 : w6.cell? ⟨gb8006, 1, none⟩ = some (.int .i64 0) := (blk_cell BK8006.out 1).trans rfl; have hfz8006_1 := blk_frozen BK8006.out 1; have hcz8006_2 : w6.cell? ⟨gb8006, 2, none⟩ = some (.int .i64 0) := (blk_cell BK8006.out 2).trans rfl; have hfz8006_2 := blk_frozen BK8006.out 2; have hcz8006_3 : w6.cell? ⟨gb8006, 3, none⟩ = some (.string (⟨#[]⟩ : ByteArray)) := (blk_cell BK8006.out 3).trans rfl; have hfz8006_3 := blk_frozen BK8006.out 3; have hcz8006_4 : w6.cell? ⟨gb8006, 4, none⟩ = some (.int .i64 0) := (blk_cell BK8006.out 4).trans rfl; have hfz8006_4 := blk_frozen BK8006.out 4))
     go_ret2
     exact ⟨vn, z_96, (Kd.R_mono (ok := fun k_ => True ∧ k_ ≠ gb8006) (z_97) (fun _ _ => trivial)), (z_98), (z_99), (z_100), (z_101)⟩
    ·rw [if_neg c2] at H
     have c2b0 : (q3 == 1) = false := beq_eq_false_iff_ne.mpr c2
     clear c2
     by_cases c3 : q3 = 0
     ·rw [if_pos c3] at H
      have c3b0 : (q3 == 0) = true := beq_iff_eq.mpr c3
      clear c3
      simp only [Option.some.injEq, Prod.mk.injEq] at H
      obtain ⟨rfl, rfl, rfl⟩ := H
      go_wp2_with (first | (go_at_call 76; (with_reducible refine (lam_76.calls k1 bo bl bn A c l vv xx x0 now q1 q2 q3 q4 q5 q6 q7 w0 _ HR.out HC.out HO.out BKo.out BKl.out BKn.out HG.out HB.out A5.out).mono ?_); rintro e w9 ⟨vn, rfl, ho, hbo, hbl, hbn, hb⟩; clear HO BKo BKl BKn HB; have HO := Aside0.mk ho; have BKo := Aside0.mk hbo; have BKl := Aside0.mk hbl; have BKn := Aside0.mk hbn; have HB := Aside0.mk hb; clear ho hbo hbl hbn hb) | ((with_reducible refine gate_dst (N := 6) rfl ?_); refine box_event ?hg (N := 6) ?hd (cs := #[.string (⟨#[]⟩ : ByteArray), .int .i64 0, .int .i64 0, .string (⟨#[]⟩ : ByteArray), .int .i64 0]) (t := 26) ?hr ?_; (case hd => rfl); (case hg => rfl); (case hr => exact z_1); intro gb8006 hg w6 hbox hb; have GE8006 := Aside0.mk ((z_92) : w0.heap.size ≤ gb8006); have NEBKo_8006 : bo ≠ gb8006 := (z_93); have NEBKl_8006 : bl ≠ gb8006 := (z_94); have NEBKn_8006 : bn ≠ gb8006 := (z_95); have m0_ := Aside0.mk (below_step HB.out hb); have m1_ := Aside0.mk (Kd.R_below HO.out hb); have m2_ := Aside0.mk (blk_below BKo.out hb); have m3_ := Aside0.mk (blk_below BKl.out hb); have m4_ := Aside0.mk (blk_below BKn.out hb); clear HB HO BKo BKl BKn; have HB := m0_; have HO := m1_; have BKo := m2_; have BKl := m3_; have BKn := m4_; clear m0_ m1_ m2_ m3_ m4_; have BK8006 := Aside0.mk hbox; clear hb hbox hg; have hcz8006_0 : w6.cell? ⟨gb8006, 0, none⟩ = some (.string (⟨#[]⟩ : ByteArray)) := (blk_cell BK8006.out 0).trans rfl; have hfz8006_0 := blk_frozen BK8006.out 0; have hcz8006_1 : w6.cell? ⟨gb8006, 1, none⟩ = some (.int .i64 0) := (blk_cell BK8006.out 1).trans rfl; have hfz8006_1 := blk_frozen BK8006.out 1; have hcz8006_2 : w6.cell? ⟨gb8006, 2, none⟩ = some (.int .i64 0) := (blk_cell BK8006.out 2).trans rfl; have hfz8006_2 := blk_frozen BK8006.out 2; have hcz8006_3 : w6.cell? ⟨gb8006, 3, none⟩ = some (.string (⟨#[]⟩ : ByteArray)) := (blk_cell BK8006.out 3).trans rfl; have hfz8006_3 := blk_frozen BK8006.out 3; have hcz8006_4 : w6.cell? ⟨gb8006, 4, none⟩ = some (.int .i64 0) := (blk_cell BK8006.out 4).trans rfl; have hfz8006_4 := blk_frozen BK8006.out 4))
      go_ret2
      exact ⟨vn, z_96, (Kd.R_mono (ok := fun k_ => True ∧ k_ ≠ gb8006) (z_97) (fun _ _ => trivial)), (z_98), (z_99), (z_100), (z_101)⟩
     ·rw [if_neg c3] at H
      have c3b0 : (q3 == 0) = false := beq_eq_false_iff_ne.mpr c3
      clear c3
      have H' := Aside0.mk H
      clear H
      go_wp2_with (first | (go_at_call 76; (with_reducible refine (lam_76.calls k1 bo bl bn A c l vv xx x0 now q1 q2 q3 q4 q5 q6 q7 w0 _ HR.out HC.out HO.out BKo.out BKl.out BKn.out HG.out HB.out A5.out).mono ?_); rintro e w9 ⟨vn, rfl, ho, hbo, hbl, hbn, hb⟩; clear HO BKo BKl BKn HB; have HO := Aside0.mk ho; have BKo := Aside0.mk hbo; have BKl := Aside0.mk hbl; have BKn := Aside0.mk hbn; have HB := Aside0.mk hb; clear ho hbo hbl hbn hb) | ((with_reducible refine gate_dst (N := 6) rfl ?_); refine box_event ?hg (N := 6) ?hd (cs := #[.string (⟨#[]⟩ : ByteArray), .int .i64 0, .int .i64 0, .string (⟨#[]⟩ : ByteArray), .int .i64 0]) (t := 26) ?hr ?_; (case hd => rfl); (case hg => rfl); (case hr => exact z_1); intro gb8006 hg w6 hbox hb; have GE8006 := Aside0.mk ((z_92) : w0.heap.size ≤ gb8006); have NEBKo_8006 : bo ≠ gb8006 := (z_93); have NEBKl_8006 : bl ≠ gb8006 := (z_94); have NEBKn_8006 : bn ≠ gb8006 := (z_95); have m0_ := Aside0.mk (below_step HB.out hb); have m1_ := Aside0.mk (Kd.R_below HO.out hb); have m2_ := Aside0.mk (blk_below BKo.out hb); have m3_ := Aside0.mk (blk_below BKl.out hb); have m4_ := Aside0.mk (blk_below BKn.out hb); clear HB HO BKo BKl BKn; have HB := m0_; have HO := m1_; have BKo := m2_; have BKl := m3_; have BKn := m4_; clear m0_ m1_ m2_ m3_ m4_; have BK8006 := Aside0.mk hbox; clear hb hbox hg; have hcz8006_0 : w6.cell? ⟨gb8006, 0, none⟩ = some (.string (⟨#[]⟩ : ByteArray)) := (blk_cell BK8006.out 0).trans rfl; have hfz8006_0 := blk_frozen BK8006.out 0; have hcz8006_1 : w6.cell? ⟨gb8006, 1, none⟩ = some (.int .i64 0) := (blk_cell BK8006.out 1).trans rfl; have hfz8006_1 := blk_frozen BK8006.out 1; have hcz8006_2 : w6.cell? ⟨gb8006, 2, none⟩ = some (.int .i64 0) := (blk_cell BK8006.out 2).trans rfl; have hfz8006_2 := blk_frozen BK8006.out 2; have hcz8006_3 : w6.cell? ⟨gb8006, 3, none⟩ = some (.string (⟨#[]⟩ : ByteArray)) := (blk_cell BK8006.out 3).trans rfl; have hfz8006_3 := blk_frozen BK8006.out 3; have hcz8006_4 : w6.cell? ⟨gb8006, 4, none⟩ = some (.int .i64 0) := (blk_cell BK8006.out 4).trans rfl; have hfz8006_4 := blk_frozen BK8006.out 4))
      go_roundg k1
      case measure => have := HK.out; omega
      case rel => exact ⟨q5, wrap64 (x7 + 1), vn, q1, z_96, rfl, H', ⟨by have := HK.out; omega⟩, ⟨(Kd.R_mono (ok := fun k_ => True ∧ k_ ≠ gb8006) (z_97) (fun _ _ => trivial))⟩, ⟨(z_98)⟩, ⟨(z_99)⟩, ⟨(z_100)⟩, ⟨(z_101)⟩⟩
   ·rw [if_neg c1] at H
    have c1b0 : decide (x7 < 5) = false := decide_eq_false c1
    clear c1
    simp only [Option.some.injEq, Prod.mk.injEq] at H
    obtain ⟨rfl, rfl, rfl⟩ := H
    go_wp2
    go_ret2
    exact ⟨vv, z_96, HO.out, BKo.out, BKl.out, BKn.out, HB.out⟩
set_option maxHeartbeats 8000000 in
set_option maxRecDepth 100000 in
theorem impl_KeptFind.calls (k : Nat) (A0 : Option Addr) (c0 : Nat) (l0 : List (S83)) (A1 : Option Addr) (c1 : Nat) (l1 : List (S26)) (a2 : ByteArray) (a3 : Int) (r1 : List (S83)) (r2 : Int) (r3 : Bool) (w : World) (hr0 : Kd.C k83 w A0 l0.length l0) (hc0 : l0.length ≤ c0) (hr1 : Kd.C k26 w A1 l1.length l1) (hc1 : l1.length ≤ c1) (h : impl_KeptFind.f k l0 l1 a2 a3 = some (r1, r2, r3)) :
  Calls Try.prog 49 #[.slice A0 l0.length c0, .slice A1 l1.length c1, .string a2, .int .i64 a3] w fun e w' => ∃ v0_ : Value, e = .returned (.tuple #[v0_, .int .i64 r2, .bool r3]) ∧ Kd.R k83 83 w' w.heap.size (fun _ => True) v0_ r1 ∧ Below w.heap.size w w' := by
 have hu_ := Try.underlying26
 have HR0 := Aside0.mk hr0
 have HC0 := Aside0.mk hc0
 have HR1 := Aside0.mk hr1
 have HC1 := Aside0.mk hc1
 have HB := Aside0.mk (Below.refl w.heap.size w)
 have H : ((impl_keptOk.f k l0 l1 a2 a3).bind fun t1 => (if t1 = true then ((impl_Kept_75.f l0).bind fun t2 => (impl_KeptFind.l0 k l1 a2 a3 t2 0)) else (some (([] : List (S83)), 0, false)))) = some (r1, r2, r3) := h
 clear hr0 hc0 hr1 hc1 h
 replace H := Option.bind_eq_some_iff.mp H
 obtain ⟨t1, A30, H⟩ := H
 have A3 := Aside0.mk A30
 clear A30
 by_cases c4 : t1 = true
 ·subst c4
  rw [if_pos rfl] at H
  replace H := Option.bind_eq_some_iff.mp H
  obtain ⟨t2, A50, H⟩ := H
  have A5 := Aside0.mk A50
  have H' := Aside0.mk H
  clear A50 H
  go_enter Try.func49, Try.ntmps49
  go_wp2_with (first | ((with_reducible refine gate_dst (N := 5) rfl ?_); refine box_event ?hg (N := 5) ?hd (cs := #[.slice A1 l1.length c1]) (t := 36) ?hr ?_; (case hd => rfl); (case hg => rfl); (case hr => exact z_1); intro gb8005 hg w5 hbox hb; have GE8005 := Aside0.mk ((z_92) : w.heap.size ≤ gb8005); skip; have m0_ := Aside0.mk (below_step HB.out hb); clear HB; have HB := m0_; clear m0_; have BK8005 := Aside0.mk hbox; clear hb hbox hg; skip) | ((with_reducible refine gate_dst (N := 7) rfl ?_); refine box_event ?hg (N := 7) ?hd (cs := #[.int .i64 a3]) (t := 3) ?hr ?_; (case hd => rfl); (case hg => rfl); (case hr => exact z_1); intro gb8007 hg w7 hbox hb; have GE8007 := Aside0.mk ((z_92) : w.heap.size ≤ gb8007); skip; have m0_ := Aside0.mk (below_step HB.out hb); have m1_ := Aside0.mk (blk_below BK8005.out hb); clear HB BK8005; have HB := m0_; have BK8005 := m1_; clear m0_ m1_; have BK8007 := Aside0.mk hbox; clear hb hbox hg; have hcl_ : w7.cell? ⟨gb8005, 0, none⟩ = some (.slice A1 l1.length c1) := (blk_cell BK8005.out 0).trans rfl; have hcn_ : w7.cell? ⟨gb8007, 0, none⟩ = some (.int .i64 a3) := (blk_cell BK8007.out 0).trans rfl) | (go_at_call 73; (with_reducible refine (impl_keptOk.calls k A0 c0 l0 A1 c1 l1 a2 a3 _ _ (Kd.C_below HR0.out HB.out) HC0.out (Kd.C_below HR1.out HB.out) HC1.out A3.out).mono ?_); rintro e w9 ⟨rfl, hb⟩; have m0_ := Aside0.mk (below_step HB.out hb); have m1_ := Aside0.mk (blk_below BK8005.out hb); have m2_ := Aside0.mk (blk_below BK8007.out hb); clear HB BK8005 BK8007; have HB := m0_; have BK8005 := m1_; have BK8007 := m2_; clear m0_ m1_ m2_; clear hcl_ hcn_ hb) | (go_at_call 75; (with_reducible refine (impl_Kept_75.calls A0 c0 l0 t2 _ (Kd.C_below HR0.out HB.out) HC0.out A5.out).mono ?_); rintro e w10 ⟨vc, rfl, ho, hb⟩; obtain ⟨Ac, cc, rfl⟩ := Kd.R_slice ho; have HO := Aside0.mk (Kd.R_lower ho (below_size HB.out)); have m0_ := Aside0.mk (below_step HB.out hb); have m1_ := Aside0.mk (blk_below BK8005.out hb); have m2_ := Aside0.mk (blk_below BK8007.out hb); clear HB BK8005 BK8007; have HB := m0_; have BK8005 := m1_; have BK8007 := m2_; clear m0_ m1_ m2_; clear ho hb) | ((with_reducible refine gate_dst (N := 11) rfl ?_); refine box_event ?hg (N := 11) ?hd (cs := #[.slice none 0 0]) (t := 48) ?hr ?_; (case hd => rfl); (case hg => rfl); (case hr => exact z_1); intro gb8011 hg w11 hbox hb; have GE8011 := Aside0.mk ((z_92) : w.heap.size ≤ gb8011); have NEBK8005_8011 : gb8005 ≠ gb8011 := (by rw [hg]; exact Nat.ne_of_lt (blk_lt BK8005.out)); have NEBK8007_8011 : gb8007 ≠ gb8011 := (by rw [hg]; exact Nat.ne_of_lt (blk_lt BK8007.out)); have m0_ := Aside0.mk (below_step HB.out hb); have m1_ := Aside0.mk (Kd.R_below HO.out hb); have m2_ := Aside0.mk (blk_below BK8005.out hb); have m3_ := Aside0.mk (blk_below BK8007.out hb); clear HB HO BK8005 BK8007; have HB := m0_; have HO := m1_; have BK8005 := m2_; have BK8007 := m3_; clear m0_ m1_ m2_ m3_; have BK8011 := Aside0.mk hbox; clear hb hbox hg; have hcz_ : w11.cell? ⟨gb8011, 0, none⟩ = some (.slice none 0 0) := (blk_cell BK8011.out 0).trans rfl; have hfz_ := blk_frozen BK8011.out 0) | (go_at_call 70; (with_reducible refine (follow_76.calls k gb8011 gb8005 gb8007 A1 c1 l1 (.slice Ac t2.length cc) t2 a2 a3 r1 r2 r3 w _ HR1.out HC1.out ?s1 ?s2 ?s3 ?s4 GE8011.out ?s5 H'.out).mono ?_); (case s1 => exact Kd.R_mono (Kd.R_far (Kd.R_types HO.out BK8011.out (z_19)) (fun _ hk => hk.2) _) (fun _ _ => trivial)); (case s2 => exact blk_put BK8011.out 0 _ rfl); (case s3 => exact blk_far BK8005.out NEBK8005_8011 _); (case s4 => exact blk_far BK8007.out NEBK8007_8011 _); (case s5 => exact below_set HB.out GE8011.out); rintro e w12 ⟨v2, rfl, ho, hbo, hbl, hbn, hb⟩; obtain ⟨Aq, cq, rfl⟩ := Kd.R_slice ho; clear HO HB hcz_ hfz_; have HO := Aside0.mk ho; have HB := Aside0.mk hb; have hcq_ : w12.cell? ⟨gb8011, 0, none⟩ = some (.slice Aq r1.length cq) := (blk_cell hbo 0).trans rfl; clear ho hb hbl hbn))
  refine bodyPost_ret (results_list (rs := [.tmp 8, .tmp 9, .tmp 10]) rfl (z_10) (.tmp (.tmp (.tmp .nil)))) rfl ?_
  exact ⟨_, z_96, HO.out, HB.out⟩
 ·replace c4 := Bool.eq_false_iff.mpr c4
  subst c4
  rw [if_neg (z_10)] at H
  simp only [Option.some.injEq, Prod.mk.injEq] at H
  obtain ⟨rfl, rfl, rfl⟩ := H
  go_enter Try.func49, Try.ntmps49
  go_wp2_with (first | ((with_reducible refine gate_dst (N := 5) rfl ?_); refine box_event ?hg (N := 5) ?hd (cs := #[.slice A1 l1.length c1]) (t := 36) ?hr ?_; (case hd => rfl); (case hg => rfl); (case hr => exact z_1); intro gb8005 hg w5 hbox hb; have GE8005 := Aside0.mk ((z_92) : w.heap.size ≤ gb8005); skip; have m0_ := Aside0.mk (below_step HB.out hb); clear HB; have HB := m0_; clear m0_; have BK8005 := Aside0.mk hbox; clear hb hbox hg; skip) | ((with_reducible refine gate_dst (N := 7) rfl ?_); refine box_event ?hg (N := 7) ?hd (cs := #[.int .i64 a3]) (t := 3) ?hr ?_; (case hd => rfl); (case hg => rfl); (case hr => exact z_1); intro gb8007 hg w7 hbox hb; have GE8007 := Aside0.mk ((z_92) : w.heap.size ≤ gb8007); skip; have m0_ := Aside0.mk (below_step HB.out hb); have m1_ := Aside0.mk (blk_below BK8005.out hb); clear HB BK8005; have HB := m0_; have BK8005 := m1_; clear m0_ m1_; have BK8007 := Aside0.mk hbox; clear hb hbox hg; have hcl_ : w7.cell? ⟨gb8005, 0, none⟩ = some (.slice A1 l1.length c1) := (blk_cell BK8005.out 0).trans rfl; have hcn_ : w7.cell? ⟨gb8007, 0, none⟩ = some (.int .i64 a3) := (blk_cell BK8007.out 0).trans rfl) | (go_at_call 73; (with_reducible refine (impl_keptOk.calls k A0 c0 l0 A1 c1 l1 a2 a3 _ _ (Kd.C_below HR0.out HB.out) HC0.out (Kd.C_below HR1.out HB.out) HC1.out A3.out).mono ?_); rintro e w9 ⟨rfl, hb⟩; have m0_ := Aside0.mk (below_step HB.out hb); have m1_ := Aside0.mk (blk_below BK8005.out hb); have m2_ := Aside0.mk (blk_below BK8007.out hb); clear HB BK8005 BK8007; have HB := m0_; have BK8005 := m1_; have BK8007 := m2_; clear m0_ m1_ m2_; clear hcl_ hcn_ hb))
  refine bodyPost_ret (results_list (rs := [.tmp 8, .tmp 9, .tmp 10]) rfl (z_10) (.tmp (.tmp (.tmp .nil)))) rfl ?_
  exact ⟨_, z_96, Kd.R_nil _ _ _ _ _, HB.out⟩

/-! ### spec_l1In: function 55 -/
def spec_l1In.f (a0 : Int) (a1 : Int) (a2 : Int) : Option (Bool) := if a0 ≥ a1 then (some (decide (a0 ≤ a2))) else (some false)
set_option maxHeartbeats 8000000 in
set_option maxRecDepth 100000 in
theorem spec_l1In.calls (a0 : Int) (a1 : Int) (a2 : Int) (r : Bool) (w : World) (h : spec_l1In.f a0 a1 a2 = some r) :
  Calls Try.prog 55 #[.int .i64 a0, .int .i64 a1, .int .i64 a2] w fun e w' => e = .returned (.bool r) ∧ Drawn0 w w' := by
 have H : (if a0 ≥ a1 then (some (decide (a0 ≤ a2))) else (some false)) = some r := h
 clear h
 by_cases c4 : a0 ≥ a1
 ·rw [if_pos c4] at H
  have c4b0 : decide (a1 ≤ a0) = true := decide_eq_true c4
  clear c4
  obtain rfl := Option.some.inj H
  go_enter Try.func55, Try.ntmps55
  go_wp2
  go_ret
  exact ⟨z_6, z_49⟩
 ·rw [if_neg c4] at H
  have c4b0 : decide (a1 ≤ a0) = false := decide_eq_false c4
  clear c4
  obtain rfl := Option.some.inj H
  go_enter Try.func55, Try.ntmps55
  go_wp2
  go_ret
  exact ⟨z_6, z_49⟩

/-! ### spec_l19Word: function 54 -/
def spec_l19Word.l0 : Nat → ByteArray → Int → Option (Bool)
 | 0, _, _ => none
 | k + 1, x0, x3 => if x3 < (x0.size : Int) then (if 0 ≤ x3 then (if (bt x0 x3) < 97 then (some false) else (if (bt x0 x3) > 122 then (some false) else (spec_l19Word.l0 k x0 (wrap64 (x3 + 1))))) else (none)) else ((spec_l1In.f (x0.size : Int) 1 12).bind fun t262 => (some t262))
def spec_l19Word.f (k : Nat) (a0 : ByteArray) : Option (Bool) := spec_l19Word.l0 k a0 0
theorem spec_l19Word.mono_l : ∀ k, (∀ y0 y1, LeO (spec_l19Word.l0 k y0 y1) (spec_l19Word.l0 (k + 1) y0 y1))
 | 0 => fun _ _ r h => by simp [spec_l19Word.l0] at h
 | k + 1 => by
  have ih0 := spec_l19Word.mono_l k
  ·intro y0 y1
   unfold spec_l19Word.l0
   repeat' first
   | (with_reducible exact ih0 _ _)
   | (with_reducible exact LeO.refl _)
   | (with_reducible exact LeO.none _)
   | (with_reducible refine LeO.ite ?_ ?_)
   | (with_reducible refine LeO.bind ?_ (fun _ => ?_))
   | exact ih0 _ _
   | exact LeO.none _
   | refine LeO.ite ?_ ?_
   | refine LeO.bind ?_ (fun _ => ?_)
theorem spec_l19Word.mono : ∀ a0 k, LeO (spec_l19Word.f k a0) (spec_l19Word.f (k + 1) a0) := by
 intro a0 k
 have ih0 := spec_l19Word.mono_l k
 unfold spec_l19Word.f
 repeat' first
   | (with_reducible exact ih0 _ _)
   | (with_reducible exact LeO.refl _)
   | (with_reducible exact LeO.none _)
   | (with_reducible refine LeO.ite ?_ ?_)
   | (with_reducible refine LeO.bind ?_ (fun _ => ?_))
   | exact ih0 _ _
   | exact LeO.none _
   | refine LeO.ite ?_ ?_
   | refine LeO.bind ?_ (fun _ => ?_)
set_option maxHeartbeats 8000000 in
set_option maxRecDepth 100000 in
theorem spec_l19Word.calls (k : Nat) (a0 : ByteArray) (r : Bool) (w : World) (h : spec_l19Word.f k a0 = some r) :
  Calls Try.prog 54 #[.string a0] w fun e w' => e = .returned (.bool r) ∧ Drawn0 w w' := by
 have H : (spec_l19Word.l0 k a0 0) = some r := h
 clear h
 have H' := Aside0.mk H
 clear H
 go_enter Try.func54, Try.ntmps54
 go_wp2
 go_loopg [3] k (fun kq v3 w' => ∃ (x3_1 : Int), v3 = .int .i64 x3_1 ∧ Aside0 (spec_l19Word.l0 kq a0 x3_1 = some r) ∧ Aside0 (kq ≤ k) ∧ Drawn0 w w')
 case atStart => exact ⟨(0), (z_6), H', ⟨Nat.le_refl _⟩, z_49⟩
 case round =>
  clear H'
  obtain ⟨x3_1, rfl, HA, HK1, ⟨m1, rfl⟩⟩ := hrel
  cases gk with
  | zero => exact absurd HA.out (by simp [spec_l19Word.l0])
  | succ k1 =>
   have H := HA.out
   clear HA
   simp only [spec_l19Word.l0] at H
   by_cases c2 : x3_1 < (a0.size : Int)
   ·rw [if_pos c2] at H
    have c2b0 : decide (x3_1 < (a0.size : Int)) = true := decide_eq_true c2
    clear c2
    by_cases c3 : 0 ≤ x3_1
    ·rw [if_pos c3] at H
     have c3b0 : decide (0 ≤ x3_1) = true := decide_eq_true c3
     clear c3
     by_cases c5 : (bt a0 x3_1) < 97
     ·rw [if_pos c5] at H
      have c5b0 : decide ((bt a0 x3_1) < 97) = true := decide_eq_true c5
      clear c5
      obtain rfl := Option.some.inj H
      have p4 : 0 ≤ (x3_1 : Int) := of_decide_eq_true (z_7)
      have q4 : x3_1 < (a0.size : Int) := of_decide_eq_true (z_7)
      have hx4 := bt_at a0 x3_1
      replace p4 := eq_true p4
      replace q4 := eq_true q4
      go_wp2
      go_ret
      exact ⟨z_6, z_49⟩
     ·rw [if_neg c5] at H
      have c5b0 : decide ((bt a0 x3_1) < 97) = false := decide_eq_false c5
      clear c5
      by_cases c7 : (bt a0 x3_1) > 122
      ·rw [if_pos c7] at H
       have c7b0 : decide (122 < (bt a0 x3_1)) = true := decide_eq_true c7
       clear c7
       obtain rfl := Option.some.inj H
       have p4 : 0 ≤ (x3_1 : Int) := of_decide_eq_true (z_7)
       have q4 : x3_1 < (a0.size : Int) := of_decide_eq_true (z_7)
       have hx4 := bt_at a0 x3_1
       replace p4 := eq_true p4
       replace q4 := eq_true q4
       have p6 : 0 ≤ (x3_1 : Int) := of_decide_eq_true (z_7)
       have q6 : x3_1 < (a0.size : Int) := of_decide_eq_true (z_7)
       have hx6 := bt_at a0 x3_1
       replace p6 := eq_true p6
       replace q6 := eq_true q6
       go_wp2
       go_ret
       exact ⟨z_6, z_49⟩
      ·rw [if_neg c7] at H
       have c7b0 : decide (122 < (bt a0 x3_1)) = false := decide_eq_false c7
       clear c7
       have H' := Aside0.mk H
       clear H
       have p4 : 0 ≤ (x3_1 : Int) := of_decide_eq_true (z_7)
       have q4 : x3_1 < (a0.size : Int) := of_decide_eq_true (z_7)
       have hx4 := bt_at a0 x3_1
       replace p4 := eq_true p4
       replace q4 := eq_true q4
       have p6 : 0 ≤ (x3_1 : Int) := of_decide_eq_true (z_7)
       have q6 : x3_1 < (a0.size : Int) := of_decide_eq_true (z_7)
       have hx6 := bt_at a0 x3_1
       replace p6 := eq_true p6
       replace q6 := eq_true q6
       go_wp2
       go_roundg k1
       case measure => have := HK1.out; omega
       case rel => exact ⟨(wrap64 (x3_1 + 1)), (z_6), H', ⟨z_9⟩, z_49⟩
    ·rw [if_neg c3] at H
     exact absurd H (z_10)
   ·rw [if_neg c2] at H
    have c2b0 : decide (x3_1 < (a0.size : Int)) = false := decide_eq_false c2
    clear c2
    replace H := Option.bind_eq_some_iff.mp H
    obtain ⟨t262, A80, H⟩ := H
    have A8 := Aside0.mk A80
    clear A80
    obtain rfl := Option.some.inj H
    go_wp2_with (first | ((with_reducible refine gate_callee (f := 55) rfl ?_); refine goesL_ (some 22) rfl rfl Try.func55 (z_0) rfl #[.int .i64 (a0.size : Int), .int .i64 1, .int .i64 12] rfl (z_8) ?_; (with_reducible refine (spec_l1In.calls (a0.size : Int) 1 12 t262 _ A8.out).mono ?_); rintro e w' ⟨rfl, ⟨nd, rfl⟩⟩; refine ⟨_, rfl, ?_⟩))
    go_ret
    exact ⟨z_6, z_49⟩

/-! ### spec_NameOk: function 19 -/
def spec_NameOk.j0 : Nat → Bool → ByteArray → Int → Int → ByteArray → Int → Option (Bool)
 | 0, _, _, _, _, _, _ => none
 | k + 1, x12, x264000, x264001, x264002, x264003, x264004 => if x12 = true then (some false) else (if x264001 = 1 then ((spec_l1In.f x264002 0 65535).bind fun t266 => (if t266 = true then (some (x264003.toList == ([] : List UInt8))) else (some false))) else (if x264001 = 2 then (if x264002 = 0 then ((spec_l19Word.f k x264003).bind fun t267 => (some t267)) else (some false)) else (if x264001 = 0 then (if x264002 = 0 then (some (x264003.toList == ([] : List UInt8))) else (some false)) else (some false))))
def spec_NameOk.f (k : Nat) (a0_0 : ByteArray) (a0_1 : Int) (a0_2 : Int) (a0_3 : ByteArray) (a0_4 : Int) : Option (Bool) := (spec_l19Word.f k a0_0).bind fun t264 => (if t264 = true then ((spec_l1In.f a0_4 1 50).bind fun t265 => (spec_NameOk.j0 k (!t265) a0_0 a0_1 a0_2 a0_3 a0_4)) else (spec_NameOk.j0 k true a0_0 a0_1 a0_2 a0_3 a0_4))
theorem spec_NameOk.mono_l : ∀ k, (∀ y0 y1 y2 y3 y4 y5, LeO (spec_NameOk.j0 k y0 y1 y2 y3 y4 y5) (spec_NameOk.j0 (k + 1) y0 y1 y2 y3 y4 y5))
 | 0 => fun _ _ _ _ _ _ r h => by simp [spec_NameOk.j0] at h
 | k + 1 => by
  have ih0 := spec_NameOk.mono_l k
  ·intro y0 y1 y2 y3 y4 y5
   unfold spec_NameOk.j0
   repeat' first
   | (with_reducible exact ih0 _ _ _ _ _ _)
   | (with_reducible exact spec_l19Word.mono _ _)
   | (with_reducible exact LeO.refl _)
   | (with_reducible exact LeO.none _)
   | (with_reducible refine LeO.ite ?_ ?_)
   | (with_reducible refine LeO.bind ?_ (fun _ => ?_))
   | exact ih0 _ _ _ _ _ _
   | exact spec_l19Word.mono _ _
   | exact LeO.none _
   | refine LeO.ite ?_ ?_
   | refine LeO.bind ?_ (fun _ => ?_)
theorem spec_NameOk.mono : ∀ a0 a1 a2 a3 a4 k, LeO (spec_NameOk.f k a0 a1 a2 a3 a4) (spec_NameOk.f (k + 1) a0 a1 a2 a3 a4) := by
 intro a0 a1 a2 a3 a4 k
 have ih0 := spec_NameOk.mono_l k
 unfold spec_NameOk.f
 repeat' first
   | (with_reducible exact ih0 _ _ _ _ _ _)
   | (with_reducible exact spec_l19Word.mono _ _)
   | (with_reducible exact LeO.refl _)
   | (with_reducible exact LeO.none _)
   | (with_reducible refine LeO.ite ?_ ?_)
   | (with_reducible refine LeO.bind ?_ (fun _ => ?_))
   | exact ih0 _ _ _ _ _ _
   | exact spec_l19Word.mono _ _
   | exact LeO.none _
   | refine LeO.ite ?_ ?_
   | refine LeO.bind ?_ (fun _ => ?_)
set_option maxHeartbeats 8000000 in
set_option maxRecDepth 100000 in
theorem spec_NameOk.calls (k : Nat) (a0_0 : ByteArray) (a0_1 : Int) (a0_2 : Int) (a0_3 : ByteArray) (a0_4 : Int) (r : Bool) (w : World) (h : spec_NameOk.f k a0_0 a0_1 a0_2 a0_3 a0_4 = some r) :
  Calls Try.prog 19 #[.agg #[.string a0_0, .int .i64 a0_1, .int .i64 a0_2, .string a0_3, .int .i64 a0_4]] w fun e w' => e = .returned (.bool r) ∧ Below w.heap.size w w' := by
 have hu26 := Try.underlying26
 have HB := Aside0.mk (Below.refl w.heap.size w)
 have H : ((spec_l19Word.f k a0_0).bind fun t264 => (if t264 = true then ((spec_l1In.f a0_4 1 50).bind fun t265 => (spec_NameOk.j0 k (!t265) a0_0 a0_1 a0_2 a0_3 a0_4)) else (spec_NameOk.j0 k true a0_0 a0_1 a0_2 a0_3 a0_4))) = some r := h
 clear h
 have HC2 := Aside0.mk H
 clear H
 go_enter Try.func19, Try.ntmps19
 go_upto_region 1 with (first | ((with_reducible refine gate_dst (N := 1) rfl ?_); refine box_event ?hg (N := 1) ?hd (cs := #[.string a0_0, .int .i64 a0_1, .int .i64 a0_2, .string a0_3, .int .i64 a0_4]) (t := 26) ?hr ?_; (case hd => rfl); (case hg => rfl); (case hr => exact z_1); intro gb263 hg w3 hbox hb; have n0_ := Aside0.mk (below_step (z_2) hb); have n1_ := Aside0.mk (hbox); have n2_ := Aside0.mk ((z_3 : w.heap.size ≤ gb263)); have n3_ := Aside0.mk ((z_3 : w.heap.size ≤ gb263)); clear HB; have HB := n0_; have BK263 := n1_; have GW263 := n2_; have GE263 := n3_; clear n0_ n1_ n2_ n3_; clear hb hbox hg))
 (try simp only [Act.put, List.setIfInBounds_toArray, List.set_cons_zero, List.set_cons_succ])
 go_cut [12] (fun v12 wc => ∃ (kq : Nat) (x12_1 : Bool), v12 = .bool x12_1 ∧ Aside0 (spec_NameOk.j0 kq x12_1 a0_0 a0_1 a0_2 a0_3 a0_4 = some r) ∧ Aside0 (kq ≤ k) ∧ Aside0 (wc.heap[gb263]? = some (.cells #[.string a0_0, .int .i64 a0_1, .int .i64 a0_2, .string a0_3, .int .i64 a0_4] 26 (0, 0))) ∧ Aside0 (Below w.heap.size w wc))
 case first =>
  have H := HC2.out
  clear HC2
  replace H := Option.bind_eq_some_iff.mp H
  obtain ⟨t264, A40, H⟩ := H
  have A4 := Aside0.mk A40
  clear A40
  by_cases c5 : t264 = true
  ·subst c5
   rw [if_pos rfl] at H
   replace H := Option.bind_eq_some_iff.mp H
   obtain ⟨t265, A60, H⟩ := H
   have A6 := Aside0.mk A60
   clear A60
   have H' := Aside0.mk H
   clear H
   have hcz7_0 : w3.cell? ⟨gb263, 0, none⟩ = some (.string a0_0) := (blk_cell BK263.out 0).trans rfl
   have hcz7_1 : w3.cell? ⟨gb263, 1, none⟩ = some (.int .i64 a0_1) := (blk_cell BK263.out 1).trans rfl
   have hcz7_2 : w3.cell? ⟨gb263, 2, none⟩ = some (.int .i64 a0_2) := (blk_cell BK263.out 2).trans rfl
   have hcz7_3 : w3.cell? ⟨gb263, 3, none⟩ = some (.string a0_3) := (blk_cell BK263.out 3).trans rfl
   have hcz7_4 : w3.cell? ⟨gb263, 4, none⟩ = some (.int .i64 a0_4) := (blk_cell BK263.out 4).trans rfl
   have hfz7_0 := blk_frozen BK263.out 0
   have hfz7_1 := blk_frozen BK263.out 1
   have hfz7_2 := blk_frozen BK263.out 2
   have hfz7_3 := blk_frozen BK263.out 3
   have hfz7_4 := blk_frozen BK263.out 4
   go_wp2_with (first | ((with_reducible refine gate_callee (f := 54) rfl ?_); refine goesL_ (some 5) rfl rfl Try.func54 (z_0) rfl #[.string a0_0] rfl (z_8) ?_; (with_reducible refine (spec_l19Word.calls k a0_0 true _ A4.out).mono ?_); rintro e w' ⟨rfl, ⟨nd, rfl⟩⟩; refine ⟨_, rfl, ?_⟩) | (go_at_call 55; (with_reducible refine (spec_l1In.calls a0_4 1 50 t265 _ A6.out).mono ?_); rintro e w' ⟨rfl, ⟨nd, rfl⟩⟩))
   go_meet
   case rel => exact ⟨_, (!t265), (z_6), H', ⟨z_52⟩, ⟨z_102⟩, ⟨z_103⟩⟩
  ·replace c5 := Bool.eq_false_iff.mpr c5
   subst c5
   rw [if_neg (show ¬ (false = true) by decide)] at H
   have H' := Aside0.mk H
   clear H
   have hcz8_0 : w3.cell? ⟨gb263, 0, none⟩ = some (.string a0_0) := (blk_cell BK263.out 0).trans rfl
   have hcz8_1 : w3.cell? ⟨gb263, 1, none⟩ = some (.int .i64 a0_1) := (blk_cell BK263.out 1).trans rfl
   have hcz8_2 : w3.cell? ⟨gb263, 2, none⟩ = some (.int .i64 a0_2) := (blk_cell BK263.out 2).trans rfl
   have hcz8_3 : w3.cell? ⟨gb263, 3, none⟩ = some (.string a0_3) := (blk_cell BK263.out 3).trans rfl
   have hcz8_4 : w3.cell? ⟨gb263, 4, none⟩ = some (.int .i64 a0_4) := (blk_cell BK263.out 4).trans rfl
   have hfz8_0 := blk_frozen BK263.out 0
   have hfz8_1 := blk_frozen BK263.out 1
   have hfz8_2 := blk_frozen BK263.out 2
   have hfz8_3 := blk_frozen BK263.out 3
   have hfz8_4 := blk_frozen BK263.out 4
   go_wp2_with (first | ((with_reducible refine gate_callee (f := 54) rfl ?_); refine goesL_ (some 5) rfl rfl Try.func54 (z_0) rfl #[.string a0_0] rfl (z_8) ?_; (with_reducible refine (spec_l19Word.calls k a0_0 false _ A4.out).mono ?_); rintro e w' ⟨rfl, ⟨nd, rfl⟩⟩; refine ⟨_, rfl, ?_⟩))
   go_meet
   case rel => exact ⟨_, (true), (z_6), H', ⟨z_52⟩, ⟨z_102⟩, ⟨z_103⟩⟩
 case rest =>
  clear HC2
  try clear c1
  try clear p2
  try clear c5
  try clear hcz7_0
  try clear hcz7_1
  try clear hcz7_2
  try clear hcz7_3
  try clear hcz7_4
  try clear hcz8_0
  try clear hcz8_1
  try clear hcz8_2
  try clear hcz8_3
  try clear hcz8_4
  try clear hfz7_0
  try clear hfz7_1
  try clear hfz7_2
  try clear hfz7_3
  try clear hfz7_4
  try clear hfz8_0
  try clear hfz8_1
  try clear hfz8_2
  try clear hfz8_3
  try clear hfz8_4
  obtain ⟨kq, x12_1, rfl, HA, HJ1, BK263, HB⟩ := hcut
  cases kq with
  | zero => exact absurd HA.out (by simp [spec_NameOk.j0])
  | succ kj1 =>
   have H := HA.out
   clear HA
   simp only [spec_NameOk.j0] at H
   by_cases c9 : x12_1 = true
   ·subst c9
    rw [if_pos rfl] at H
    obtain rfl := Option.some.inj H
    go_wp2
    go_ret
    exact ⟨z_4, z_103⟩
   ·replace c9 := Bool.eq_false_iff.mpr c9
    subst c9
    rw [if_neg (show ¬ (false = true) by decide)] at H
    by_cases c10 : a0_1 = 1
    ·rw [if_pos c10] at H
     have c10b0 : (a0_1 == 1) = true := beq_iff_eq.mpr c10
     have c10b1 : (a0_1 != 1) = false := bne_eq_false_iff_eq.mpr c10
     clear c10
     replace H := Option.bind_eq_some_iff.mp H
     obtain ⟨t266, A110, H⟩ := H
     have A11 := Aside0.mk A110
     clear A110
     by_cases c12 : t266 = true
     ·subst c12
      rw [if_pos rfl] at H
      obtain rfl := Option.some.inj H
      have hcz13_0 : wc.cell? ⟨gb263, 0, none⟩ = some (.string a0_0) := (blk_cell BK263.out 0).trans rfl
      have hcz13_1 : wc.cell? ⟨gb263, 1, none⟩ = some (.int .i64 a0_1) := (blk_cell BK263.out 1).trans rfl
      have hcz13_2 : wc.cell? ⟨gb263, 2, none⟩ = some (.int .i64 a0_2) := (blk_cell BK263.out 2).trans rfl
      have hcz13_3 : wc.cell? ⟨gb263, 3, none⟩ = some (.string a0_3) := (blk_cell BK263.out 3).trans rfl
      have hcz13_4 : wc.cell? ⟨gb263, 4, none⟩ = some (.int .i64 a0_4) := (blk_cell BK263.out 4).trans rfl
      have hfz13_0 := blk_frozen BK263.out 0
      have hfz13_1 := blk_frozen BK263.out 1
      have hfz13_2 := blk_frozen BK263.out 2
      have hfz13_3 := blk_frozen BK263.out 3
      have hfz13_4 := blk_frozen BK263.out 4
      go_wp2_with (first | ((with_reducible refine gate_callee (f := 55) rfl ?_); refine goesL_ (some 19) rfl rfl Try.func55 (z_0) rfl #[.int .i64 a0_2, .int .i64 0, .int .i64 65535] rfl (z_8) ?_; (with_reducible refine (spec_l1In.calls a0_2 0 65535 true _ A11.out).mono ?_); rintro e w' ⟨rfl, ⟨nd, rfl⟩⟩; refine ⟨_, rfl, ?_⟩))
      go_ret
      exact ⟨z_4, z_103⟩
     ·replace c12 := Bool.eq_false_iff.mpr c12
      subst c12
      rw [if_neg (show ¬ (false = true) by decide)] at H
      obtain rfl := Option.some.inj H
      have hcz14_0 : wc.cell? ⟨gb263, 0, none⟩ = some (.string a0_0) := (blk_cell BK263.out 0).trans rfl
      have hcz14_1 : wc.cell? ⟨gb263, 1, none⟩ = some (.int .i64 a0_1) := (blk_cell BK263.out 1).trans rfl
      have hcz14_2 : wc.cell? ⟨gb263, 2, none⟩ = some (.int .i64 a0_2) := (blk_cell BK263.out 2).trans rfl
      have hcz14_3 : wc.cell? ⟨gb263, 3, none⟩ = some (.string a0_3) := (blk_cell BK263.out 3).trans rfl
      have hcz14_4 : wc.cell? ⟨gb263, 4, none⟩ = some (.int .i64 a0_4) := (blk_cell BK263.out 4).trans rfl
      have hfz14_0 := blk_frozen BK263.out 0
      have hfz14_1 := blk_frozen BK263.out 1
      have hfz14_2 := blk_frozen BK263.out 2
      have hfz14_3 := blk_frozen BK263.out 3
      have hfz14_4 := blk_frozen BK263.out 4
      go_wp2_with (first | ((with_reducible refine gate_callee (f := 55) rfl ?_); refine goesL_ (some 19) rfl rfl Try.func55 (z_0) rfl #[.int .i64 a0_2, .int .i64 0, .int .i64 65535] rfl (z_8) ?_; (with_reducible refine (spec_l1In.calls a0_2 0 65535 false _ A11.out).mono ?_); rintro e w' ⟨rfl, ⟨nd, rfl⟩⟩; refine ⟨_, rfl, ?_⟩))
      go_ret
      exact ⟨z_4, z_103⟩
    ·rw [if_neg c10] at H
     have c10b0 : (a0_1 == 1) = false := beq_eq_false_iff_ne.mpr c10
     have c10b1 : (a0_1 != 1) = true := bne_iff_ne.mpr c10
     by_cases c15 : a0_1 = 2
     ·rw [if_pos c15] at H
      have c15b0 : (a0_1 == 2) = true := beq_iff_eq.mpr c15
      have c15b1 : (a0_1 != 2) = false := bne_eq_false_iff_eq.mpr c15
      clear c15
      by_cases c16 : a0_2 = 0
      ·rw [if_pos c16] at H
       have c16b0 : (a0_2 == 0) = true := beq_iff_eq.mpr c16
       have c16b1 : (a0_2 != 0) = false := bne_eq_false_iff_eq.mpr c16
       clear c16
       replace H := Option.bind_eq_some_iff.mp H
       obtain ⟨t267, A170, H⟩ := H
       have A17 := Aside0.mk A170
       clear A170
       obtain rfl := Option.some.inj H
       have hcz18_0 : wc.cell? ⟨gb263, 0, none⟩ = some (.string a0_0) := (blk_cell BK263.out 0).trans rfl
       have hcz18_1 : wc.cell? ⟨gb263, 1, none⟩ = some (.int .i64 a0_1) := (blk_cell BK263.out 1).trans rfl
       have hcz18_2 : wc.cell? ⟨gb263, 2, none⟩ = some (.int .i64 a0_2) := (blk_cell BK263.out 2).trans rfl
       have hcz18_3 : wc.cell? ⟨gb263, 3, none⟩ = some (.string a0_3) := (blk_cell BK263.out 3).trans rfl
       have hcz18_4 : wc.cell? ⟨gb263, 4, none⟩ = some (.int .i64 a0_4) := (blk_cell BK263.out 4).trans rfl
       have hfz18_0 := blk_frozen BK263.out 0
       have hfz18_1 := blk_frozen BK263.out 1
       have hfz18_2 := blk_frozen BK263.out 2
       have hfz18_3 := blk_frozen BK263.out 3
       have hfz18_4 := blk_frozen BK263.out 4
       go_wp2_with (first | (go_at_call 54; (with_reducible refine (spec_l19Word.calls kj1 a0_3 t267 _ A17.out).mono ?_); rintro e w' ⟨rfl, ⟨nd, rfl⟩⟩))
       go_ret
       exact ⟨z_4, z_103⟩
      ·rw [if_neg c16] at H
       have c16b0 : (a0_2 == 0) = false := beq_eq_false_iff_ne.mpr c16
       have c16b1 : (a0_2 != 0) = true := bne_iff_ne.mpr c16
       obtain rfl := Option.some.inj H
       have hcz19_0 : wc.cell? ⟨gb263, 0, none⟩ = some (.string a0_0) := (blk_cell BK263.out 0).trans rfl
       have hcz19_1 : wc.cell? ⟨gb263, 1, none⟩ = some (.int .i64 a0_1) := (blk_cell BK263.out 1).trans rfl
       have hcz19_2 : wc.cell? ⟨gb263, 2, none⟩ = some (.int .i64 a0_2) := (blk_cell BK263.out 2).trans rfl
       have hcz19_3 : wc.cell? ⟨gb263, 3, none⟩ = some (.string a0_3) := (blk_cell BK263.out 3).trans rfl
       have hcz19_4 : wc.cell? ⟨gb263, 4, none⟩ = some (.int .i64 a0_4) := (blk_cell BK263.out 4).trans rfl
       have hfz19_0 := blk_frozen BK263.out 0
       have hfz19_1 := blk_frozen BK263.out 1
       have hfz19_2 := blk_frozen BK263.out 2
       have hfz19_3 := blk_frozen BK263.out 3
       have hfz19_4 := blk_frozen BK263.out 4
       go_wp2
       go_ret
       exact ⟨z_4, z_103⟩
     ·rw [if_neg c15] at H
      have c15b0 : (a0_1 == 2) = false := beq_eq_false_iff_ne.mpr c15
      have c15b1 : (a0_1 != 2) = true := bne_iff_ne.mpr c15
      by_cases c20 : a0_1 = 0
      ·rw [if_pos c20] at H
       have c20b0 : (a0_1 == 0) = true := beq_iff_eq.mpr c20
       have c20b1 : (a0_1 != 0) = false := bne_eq_false_iff_eq.mpr c20
       clear c20
       by_cases c21 : a0_2 = 0
       ·rw [if_pos c21] at H
        have c21b0 : (a0_2 == 0) = true := beq_iff_eq.mpr c21
        have c21b1 : (a0_2 != 0) = false := bne_eq_false_iff_eq.mpr c21
        clear c21
        obtain rfl := Option.some.inj H
        have hcz22_0 : wc.cell? ⟨gb263, 0, none⟩ = some (.string a0_0) := (blk_cell BK263.out 0).trans rfl
        have hcz22_1 : wc.cell? ⟨gb263, 1, none⟩ = some (.int .i64 a0_1) := (blk_cell BK263.out 1).trans rfl
        have hcz22_2 : wc.cell? ⟨gb263, 2, none⟩ = some (.int .i64 a0_2) := (blk_cell BK263.out 2).trans rfl
        have hcz22_3 : wc.cell? ⟨gb263, 3, none⟩ = some (.string a0_3) := (blk_cell BK263.out 3).trans rfl
        have hcz22_4 : wc.cell? ⟨gb263, 4, none⟩ = some (.int .i64 a0_4) := (blk_cell BK263.out 4).trans rfl
        have hfz22_0 := blk_frozen BK263.out 0
        have hfz22_1 := blk_frozen BK263.out 1
        have hfz22_2 := blk_frozen BK263.out 2
        have hfz22_3 := blk_frozen BK263.out 3
        have hfz22_4 := blk_frozen BK263.out 4
        go_wp2
        go_ret
        exact ⟨z_4, z_103⟩
       ·rw [if_neg c21] at H
        have c21b0 : (a0_2 == 0) = false := beq_eq_false_iff_ne.mpr c21
        have c21b1 : (a0_2 != 0) = true := bne_iff_ne.mpr c21
        obtain rfl := Option.some.inj H
        have hcz23_0 : wc.cell? ⟨gb263, 0, none⟩ = some (.string a0_0) := (blk_cell BK263.out 0).trans rfl
        have hcz23_1 : wc.cell? ⟨gb263, 1, none⟩ = some (.int .i64 a0_1) := (blk_cell BK263.out 1).trans rfl
        have hcz23_2 : wc.cell? ⟨gb263, 2, none⟩ = some (.int .i64 a0_2) := (blk_cell BK263.out 2).trans rfl
        have hcz23_3 : wc.cell? ⟨gb263, 3, none⟩ = some (.string a0_3) := (blk_cell BK263.out 3).trans rfl
        have hcz23_4 : wc.cell? ⟨gb263, 4, none⟩ = some (.int .i64 a0_4) := (blk_cell BK263.out 4).trans rfl
        have hfz23_0 := blk_frozen BK263.out 0
        have hfz23_1 := blk_frozen BK263.out 1
        have hfz23_2 := blk_frozen BK263.out 2
        have hfz23_3 := blk_frozen BK263.out 3
        have hfz23_4 := blk_frozen BK263.out 4
        go_wp2
        go_ret
        exact ⟨z_4, z_103⟩
      ·rw [if_neg c20] at H
       have c20b0 : (a0_1 == 0) = false := beq_eq_false_iff_ne.mpr c20
       have c20b1 : (a0_1 != 0) = true := bne_iff_ne.mpr c20
       obtain rfl := Option.some.inj H
       have hcz24_0 : wc.cell? ⟨gb263, 0, none⟩ = some (.string a0_0) := (blk_cell BK263.out 0).trans rfl
       have hcz24_1 : wc.cell? ⟨gb263, 1, none⟩ = some (.int .i64 a0_1) := (blk_cell BK263.out 1).trans rfl
       have hcz24_2 : wc.cell? ⟨gb263, 2, none⟩ = some (.int .i64 a0_2) := (blk_cell BK263.out 2).trans rfl
       have hcz24_3 : wc.cell? ⟨gb263, 3, none⟩ = some (.string a0_3) := (blk_cell BK263.out 3).trans rfl
       have hcz24_4 : wc.cell? ⟨gb263, 4, none⟩ = some (.int .i64 a0_4) := (blk_cell BK263.out 4).trans rfl
       have hfz24_0 := blk_frozen BK263.out 0
       have hfz24_1 := blk_frozen BK263.out 1
       have hfz24_2 := blk_frozen BK263.out 2
       have hfz24_3 := blk_frozen BK263.out 3
       have hfz24_4 := blk_frozen BK263.out 4
       go_wp2
       go_ret
       exact ⟨z_4, z_103⟩

end Go.Proofs.Ytmgnmgobibpjjaa.GFnExactKeptFind
