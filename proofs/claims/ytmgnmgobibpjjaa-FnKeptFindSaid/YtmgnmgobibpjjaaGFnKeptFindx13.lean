/- What the Go functions that FnKeptFind reaches come to, walked step by step; there is no condition beyond those each statement names. -/
import Derived.Deep.RegionLaw
import Derived.Test.YtmgnmgobibpjjaaGFnKeptFindx0
namespace Go.Proofs.Ytmgnmgobibpjjaa.GFnKeptFind
open Go.RowKit Go.Proofs.YtmgnmgobibpjjaaVKeptFind.PrintWords Go.Proofs.YtmgnmgobibpjjaaVKeptFind.PrintLast Go.Proofs.YtmgnmgobibpjjaaVKeptFind.PrintMore
attribute [local go_sem] max2_int min2_int max_two min_two max_three min_three max_four min_four   -- for this text's walks alone
set_option linter.unusedVariables false
set_option linter.unusedSimpArgs false

/-! ### impl_Kept_85: function 85 -/
mutual
def impl_Kept_85.j0 : Nat → List (S83) → Int → Option ((List (S83)))
 | 0, _, _ => none
 | k + 1, x0, x1 => if 0 ≤ x1 then (if x1 < (x0.length : Int) then (impl_Kept_85.l0 k x0 x1) else (none)) else (none)
def impl_Kept_85.l0 : Nat → List (S83) → Int → Option ((List (S83)))
 | 0, _, _ => none
 | k + 1, x0, x8 => if (wrap64 (x8 + 1)) < (x0.length : Int) then (if 0 ≤ (wrap64 (x8 + 1)) then (if 0 ≤ x8 then (if x8 < (x0.length : Int) then (impl_Kept_85.l0 k (x0.set (x8 : Int).toNat (⟨(⟨(rd_T83 x0 (wrap64 (x8 + 1))).f0.f0, (rd_T83 x0 (wrap64 (x8 + 1))).f0.f1, (rd_T83 x0 (wrap64 (x8 + 1))).f0.f2, (rd_T83 x0 (wrap64 (x8 + 1))).f0.f3, (rd_T83 x0 (wrap64 (x8 + 1))).f0.f4⟩ : S26), (rd_T83 x0 (wrap64 (x8 + 1))).f1⟩ : S83)) (wrap64 (x8 + 1))) else (none)) else (none)) else (none)) else (if 0 ≤ (wrap64 ((x0.length : Int) - 1)) then (if (wrap64 ((x0.length : Int) - 1)) ≤ (x0.length : Int) then (some (x0.take ((wrap64 ((x0.length : Int) - 1)) : Int).toNat)) else (none)) else (none))
end
def impl_Kept_85.f (k : Nat) (l0 : List (S83)) (a1 : Int) (a2 : Int) : Option ((List (S83))) := if a2 = (wrap64 (a1 + 1)) then (impl_Kept_85.j0 k l0 a1) else (if 1 < ((([0] : List Int)).length : Int) then (impl_Kept_85.j0 k l0 a1) else (none))
theorem impl_Kept_85.mono_l : ∀ k, (∀ y0 y1, LeO (impl_Kept_85.j0 k y0 y1) (impl_Kept_85.j0 (k + 1) y0 y1)) ∧ (∀ y0 y1, LeO (impl_Kept_85.l0 k y0 y1) (impl_Kept_85.l0 (k + 1) y0 y1))
 | 0 => ⟨fun _ _ r h => by simp [impl_Kept_85.j0] at h, fun _ _ r h => by simp [impl_Kept_85.l0] at h⟩
 | k + 1 => by
  obtain ⟨ih0, ih1⟩ := impl_Kept_85.mono_l k
  refine ⟨?_, ?_⟩
  ·intro y0 y1
   unfold impl_Kept_85.j0
   repeat' first
   | (with_reducible exact ih0 _ _)
   | (with_reducible exact ih1 _ _)
   | (with_reducible exact LeO.refl _)
   | (with_reducible exact LeO.none _)
   | (with_reducible refine LeO.ite ?_ ?_)
   | (with_reducible refine LeO.bind ?_ (fun _ => ?_))
   | exact ih0 _ _
   | exact ih1 _ _
   | exact LeO.none _
   | refine LeO.ite ?_ ?_
   | refine LeO.bind ?_ (fun _ => ?_)
  ·intro y0 y1
   unfold impl_Kept_85.l0
   repeat' first
   | (with_reducible exact ih0 _ _)
   | (with_reducible exact ih1 _ _)
   | (with_reducible exact LeO.refl _)
   | (with_reducible exact LeO.none _)
   | (with_reducible refine LeO.ite ?_ ?_)
   | (with_reducible refine LeO.bind ?_ (fun _ => ?_))
   | exact ih0 _ _
   | exact ih1 _ _
   | exact LeO.none _
   | refine LeO.ite ?_ ?_
   | refine LeO.bind ?_ (fun _ => ?_)
theorem impl_Kept_85.mono : ∀ a0 a1 a2 k, LeO (impl_Kept_85.f k a0 a1 a2) (impl_Kept_85.f (k + 1) a0 a1 a2) := by
 intro a0 a1 a2 k
 obtain ⟨ih0, ih1⟩ := impl_Kept_85.mono_l k
 unfold impl_Kept_85.f
 repeat' first
   | (with_reducible exact ih0 _ _)
   | (with_reducible exact ih1 _ _)
   | (with_reducible exact LeO.refl _)
   | (with_reducible exact LeO.none _)
   | (with_reducible refine LeO.ite ?_ ?_)
   | (with_reducible refine LeO.bind ?_ (fun _ => ?_))
   | exact ih0 _ _
   | exact ih1 _ _
   | exact LeO.none _
   | refine LeO.ite ?_ ?_
   | refine LeO.bind ?_ (fun _ => ?_)
theorem del_tells : ∀ (k : Nat) (x : List S83) (j : Nat) (r : List S83), j < x.length → x.length ≤ 9223372036854775807 → impl_Kept_85.l0 k x j = some r → r = x.take j ++ x.drop (j + 1) := by
 intro k
 induction k with
 | zero => intro x j r _ _ h; simp [impl_Kept_85.l0] at h
 | succ k ih =>
  intro x j r hj hm h
  have e : wrap64 ((j : Int) + 1) = ((j + 1 : Nat) : Int) := by unfold wrap64; omega
  simp only [impl_Kept_85.l0] at h
  rw [e] at h
  by_cases c : ((j + 1 : Nat) : Int) < (x.length : Int)
  ·rw [if_pos c, if_pos (z_6), if_pos (z_6), if_pos (z_6)] at h
   have h2 := ih _ (j + 1) r (by rw [List.length_set]; omega) (by rw [List.length_set]; exact hm) h
   have hj1 : j + 1 < x.length := z_6
   have hv : rd_T83 x ((j + 1 : Nat) : Int) = x[j + 1] := by unfold rd_T83; rw [Int.toNat_natCast, List.getD_eq_getElem?_getD, List.getElem?_eq_getElem hj1]; rfl
   have h3 : x.drop (j + 1) = x[j + 1] :: x.drop (j + 1 + 1) := List.drop_eq_getElem_cons hj1
   have hl : (x.take j).length = j := by rw [List.length_take]; omega
   rw [h2, Int.toNat_natCast, List.set_eq_take_append_cons_drop, if_pos hj, List.take_append, List.drop_append, hl, h3, hv, List.take_of_length_le (z_6 : (x.take j).length ≤ j + 1), List.drop_of_length_le (z_6 : (x.take j).length ≤ j + 1 + 1)]
   have e1 : j + 1 - j = 1 := z_6
   have e2 : j + 1 + 1 - j = 2 := z_6
   rw [e1, e2]
   simp
   exact h3.symm
  ·rw [if_neg c] at h
   have e3 : wrap64 ((x.length : Int) - 1) = (j : Int) := by unfold wrap64; omega
   rw [e3, if_pos (z_6), if_pos (z_6), Int.toNat_natCast] at h
   rw [← Option.some.inj h, List.drop_of_length_le (z_6), List.append_nil]
theorem del_f {k : Nat} {x r : List S83} {a1 a2 : Int} (hm : x.length ≤ 9223372036854775807) (h : impl_Kept_85.f k x a1 a2 = some r) : ∃ j : Nat, a1 = j ∧ a2 = ((j + 1 : Nat) : Int) ∧ j < x.length ∧ r = x.take j ++ x.drop (j + 1) := by
 unfold impl_Kept_85.f at h
 by_cases c : a2 = wrap64 (a1 + 1)
 ·rw [if_pos c] at h
  cases k with
  | zero => exact absurd h (by simp [impl_Kept_85.j0])
  | succ k =>
   simp only [impl_Kept_85.j0] at h
   by_cases c1 : 0 ≤ a1
   ·rw [if_pos c1] at h
    by_cases c2 : a1 < (x.length : Int)
    ·rw [if_pos c2] at h
     obtain ⟨j, rfl⟩ := Int.eq_ofNat_of_zero_le c1
     exact ⟨j, rfl, by rw [c]; unfold wrap64; omega, z_6, del_tells k x j r (z_6) hm h⟩
    ·rw [if_neg c2] at h; exact absurd h (z_12)
   ·rw [if_neg c1] at h; exact absurd h (z_12)
 ·rw [if_neg c] at h
  rw [if_neg (z_12)] at h
  exact absurd h (z_12)
set_option maxHeartbeats 8000000 in
set_option maxRecDepth 100000 in
theorem impl_Kept_85.calls (k : Nat) (P0_ : Nat → Prop) (u9000_ : Value) (l0 : List (S83)) (a1 : Int) (a2 : Int) (r : List (S83)) (w0 w : World) (hB : Below w0.heap.size w0 w) (ho0 : Kd.R k83 83 w w0.heap.size P0_ u9000_ l0) (h : impl_Kept_85.f k l0 a1 a2 = some r) :
  Calls Try.prog 85 #[u9000_, .int .i64 a1, .int .i64 a2] w fun e w' => ∃ v0_ : Value, e = .returned (v0_) ∧ Kd.R k83 83 w' w0.heap.size (fun k_ => (P0_ k_ ∨ w.heap.size ≤ k_)) v0_ r ∧ Below w0.heap.size w0 w' ∧ Kept w w' (fun k_ => P0_ k_) := by
 obtain ⟨hok, inner, ho, hr⟩ := ho0
 have hm : l0.length ≤ 9223372036854775807 := by
  rcases ho.2 with ⟨_, h0⟩ | ⟨_, _, cur, _, _, hg, h1, h2, _⟩
  ·omega
  ·simp only [maxLen] at h2; omega
 obtain ⟨i, rfl, rfl, hi, rfl⟩ := del_f hm h
 clear h
 obtain ⟨g, cap, rfl, _, hgl⟩ := ho.form (z_6)
 obtain ⟨cur, hg, hbg, hnc, hcm, hcs, ht⟩ := ho.block
 have hs6 : (k83).sz = 6 := rfl
 rw [hs6] at hcs ht
 obtain ⟨n, hn⟩ : ∃ n, n = l0.length := ⟨_, rfl⟩
 have hil : inner.length = n * 6 := by rw [ho.1, hs6, hn]
 obtain ⟨news, hnews⟩ : ∃ news, news = inner.drop ((i + 1) * 6) := ⟨_, rfl⟩
 have hnl : news.length = (n - (i + 1)) * 6 := by rw [hnews, List.length_drop, hil]; omega
 have hcell : ∀ q u, inner[q]? = some u → w.cell? ⟨g, q, none⟩ = some u := by
  intro q u hu
  have hq : q < inner.length := (List.getElem?_eq_some_iff.1 hu).1
  rw [ho.cellAt q (by rw [hs6, ← hn]; omega)]; exact hu
 have hsome : ∀ q, q < n * 6 → (w.cell? ⟨g, q, none⟩).isSome = true ∧ w.frozen? ⟨g, q, none⟩ = false := by
  intro q hq
  refine ⟨?_, ho.frozenAt q⟩
  rw [hcell q (inner[q]'(z_6)) (List.getElem?_eq_getElem (z_6))]; rfl
 -- the cells that are moved to the left, and where they lie
 obtain ⟨A, hA, hsrc⟩ : ∃ A : Addr, (if cap = i + 1 then some (⟨g, 0, none⟩ : Addr) else some ⟨g, (i + 1) * 6, none⟩) = some A ∧ (∀ t u, news[t]? = some u → w.drew.cell? (A.add t) = some u) := by
  by_cases h : cap = i + 1
  ·refine ⟨⟨g, 0, none⟩, by simp [h], fun t u hu => ?_⟩
   have h0 : news.length = 0 := by rw [hnl]; omega
   rw [List.length_eq_zero_iff.1 h0] at hu
   simp at hu
  ·refine ⟨⟨g, (i + 1) * 6, none⟩, by simp [h], fun t u hu => ?_⟩
   rw [hnews, List.getElem?_drop] at hu
   rw [Addr.add_lit]
   exact hcell _ _ hu
 have hone : ∀ u ∈ inner, u.oneCell' = true := by
  intro u hu
  exact Kd.reps_one hr (z_5) (fun p c hp => k83.K_one (k83.K_of_M hp)) u hu
 -- the world behind the append
 obtain ⟨W1, hW1⟩ : ∃ W1, W1 = w.drew.setCells g (0 + i * 6) news := ⟨_, rfl⟩
 have hfit : i * 6 + news.length ≤ cur.size := by
  have h1 : cap * 6 ≤ cur.size := hcs
  omega
 obtain ⟨cur1, hg1, hs1, hc1⟩ := setCells_row news (0 + i * 6) w.drew cur hg (z_6)
 rw [← hW1] at hg1
 obtain ⟨o, ho_⟩ : ∃ o, o = (i + (n - (i + 1))) * 6 := ⟨_, rfl⟩
 obtain ⟨W2, hW2⟩ : ∃ W2, W2 = W1.setCells g o [.string ⟨#[]⟩, .int .i64 0, .int .i64 0, .string ⟨#[]⟩, .int .i64 0, .int .i64 0] := ⟨_, rfl⟩
 have hcl : ∀ ty, (Builtin.clear_ #[48] ty #[.slice (some ⟨g, o, none⟩) (n - (i + (n - (i + 1)))) (cap - (i + (n - (i + 1))))]).run Try.prog W1 = .ok (.tuple #[]) W2 := by
  intro ty
  have hone1 : n - (i + (n - (i + 1))) = 1 := z_6
  rw [hone1]
  have hst := run_storeCells_cells (P := Try.prog) g o [.string ⟨#[]⟩, .int .i64 0, .int .i64 0, .string ⟨#[]⟩, .int .i64 0, .int .i64 0] 0 W1
   (fun q hq => by
    have hq6 : q < 6 := hq
    have h1 : cap * 6 ≤ cur.size := hcs
    rw [blk_cell hg1, Array.getElem?_eq_getElem (z_6)]; rfl) (fun q hq => blk_frozen hg1 _) (z_5)
  simp only [Nat.add_zero] at hst
  rw [← hW2] at hst
  simp [Builtin.clear_, run_underlying Try.underlying48, Try.zeroValue83, Builtin.zeroCells, Value.cells, List.range, List.range.loop, hst]
 have hp6 : i * 6 ≤ n * 6 := Nat.mul_le_mul_right _ (z_6)
 have ho6 : o + 6 ≤ cur1.size := by
  have h1 : cap * 6 ≤ cur.size := hcs
  omega
 obtain ⟨cur2, hg2, hs2, hc2⟩ := setCells_row [.string ⟨#[]⟩, .int .i64 0, .int .i64 0, .string ⟨#[]⟩, .int .i64 0, .int .i64 0] o W1 cur1 hg1 ho6
 rw [← hW2] at hg2
 have hfar : ∀ k, k ≠ g → W2.heap[k]? = w.heap[k]? := fun k hk => by
  rw [hW2, setCells_far _ _ k hk, hW1, setCells_far _ _ k hk]; rfl
 have hsame : W2.os = w.os ∧ W2.tape = w.tape ∧ W2.output = w.output ∧ W2.heap.size = w.heap.size := by
  have h1 := setCells_same g news (0 + i * 6) w.drew
  have h2 := setCells_same g [.string ⟨#[]⟩, .int .i64 0, .int .i64 0, .string ⟨#[]⟩, .int .i64 0, .int .i64 0] o W1
  rw [← hW1] at h1
  rw [← hW2] at h2
  exact ⟨h2.1.trans h1.1, h2.2.1.trans h1.2.1, h2.2.2.1.trans h1.2.2.1, h2.2.2.2.trans h1.2.2.2⟩
 have hlen : (l0.take i ++ l0.drop (i + 1)).length = i + (n - (i + 1)) := by rw [List.length_append, List.length_take, List.length_drop]; omega
 have hR : Kd.R k83 83 W2 w0.heap.size (fun k_ => (P0_ k_ ∨ w.heap.size ≤ k_)) (.slice (some ⟨g, 0, none⟩) (i + (n - (i + 1))) cap) (l0.take i ++ l0.drop (i + 1)) := by
  refine ⟨fun k hk => Or.inl (hok k hk), inner.take (i * 6) ++ news, ?_, ?_⟩
  ·refine ⟨?_, Or.inr ⟨g, cap, cur2, by rw [hlen], hbg, hg2, z_6, hcm, by rw [hs2, hs1]; exact hcs, ?_⟩⟩
   ·rw [List.length_append, List.length_take, hil, hnl, hlen]
    show min (i * 6) (n * 6) + _ = _ * 6
    omega
   ·rw [hlen, hc2]
    show List.take ((i + (n - (i + 1))) * 6) _ = _
    rw [← ho_, List.append_assoc, List.take_append_of_le_length (by rw [List.length_take, Array.length_toList]; omega), List.take_take, Nat.min_self, hc1, Nat.zero_add,
     List.take_append_of_le_length (by rw [List.length_append, List.length_take, Array.length_toList, hnl]; omega),
     List.take_of_length_le (by rw [List.length_append, List.length_take, Array.length_toList, hnl]; omega), ← ht, List.take_take, Nat.min_eq_left (z_6)]
  ·rw [hnews]
   refine Kd.reps_append (Kd.reps_take (hr.imp_ fun p c hp => ?_) (z_6)) (Kd.reps_drop (hr.imp_ fun p c hp => ?_))
   ·exact k83.M_mono (fun k hk => ⟨Or.inl hk.1, hk.2⟩) (k83.M_move (fun k hk => hfar k (fun e => hk.2 (by rw [e]; rfl))) hp)
   ·exact k83.M_mono (fun k hk => ⟨Or.inl hk.1, hk.2⟩) (k83.M_move (fun k hk => hfar k (fun e => hk.2 (by rw [e]; rfl))) hp)
 have hBW : Below w0.heap.size w0 W2 := ⟨hsame.1.trans hB.os, hsame.2.1.trans hB.tape, hsame.2.2.1.trans hB.output, by rw [hsame.2.2.2]; exact hB.size, fun k hk => (hfar k (z_6)).trans (hB.block k hk)⟩
 have hKW : Kept w W2 (fun k_ => P0_ k_) := ⟨by rw [hsame.2.2.2]; exact Nat.le_refl _, fun k hk hn => hfar k (fun e => hn (by rw [e]; exact hok g rfl))⟩
 rw [ho_] at hcl
 have HRR := Aside0.mk hR
 have HBW := Aside0.mk hBW
 have HKW := Aside0.mk hKW
 clear hR hBW hKW hsame hfar hg2 hs2 hc2 ho6 hp6 hlen ho_
 have HX1 := Aside0.mk hW1
 have HX2 := Aside0.mk hW2
 have HG := Aside0.mk hg
 have HG1 := Aside0.mk hg1
 have HC1 := Aside0.mk hc1
 have HT := Aside0.mk ht
 have HR := Aside0.mk hr
 have HO := Aside0.mk ho
 have HN := Aside0.mk hnews
 have HNL := Aside0.mk hnl
 have HSRC := Aside0.mk hsrc
 have HSOME := Aside0.mk hsome
 have HONE := Aside0.mk (fun u (hu : u ∈ news) => hone u (by rw [hnews] at hu; exact List.mem_of_mem_drop hu))
 have HOK := Aside0.mk hok
 have HB' := Aside0.mk hB
 have hic : i ≤ cap := z_6
 have hjc : i + 1 ≤ cap := z_6
 have hin : i < n := z_6
 have hcap : n ≤ cap := z_6
 have hz1 : (0 : Int) ≤ (i : Int) + 1 := z_6
 have hz2 : (i : Int) + 1 ≤ (n : Int) := z_6
 rw [← hn]
 have HNN := Aside0.mk hn
 clear hn
 have hcm' : cap ≤ 9223372036854775807 := hcm
 clear hW1 hW2 hg hg1 hc1 ht hr ho hnews hnl hsrc hsome hone hok hB hcell hs6 hil hcs hcm hfit hs1 hi hnc hm hbg
 go_enter Try.func85, Try.ntmps85
 go_wp2_with fail
 go_region_law (refine step_append_room rfl (.tmp 22) (.tmp 25) 48 rfl 83 _ 6 Try.underlying48 rfl rfl g 0 i cap (by simp [Act.eval, Act.put]) A (n - (i + 1)) (cap - (i + 1)) news (by simp [Act.eval, Act.put]) HNL.out HSRC.out HONE.out (z_6) (fun q hq => by have h1 := HNL.out; have h2 := HSOME.out (0 + i * 6 + q) (z_6); exact h2) ?_; rw [← HX1.out])
 go_wp2
 go_ret
 exact ⟨_, rfl, HRR.out, HBW.out, HKW.out⟩

end Go.Proofs.Ytmgnmgobibpjjaa.GFnKeptFind
