/- Copies, one by one, into a new row; there is no condition beyond those each statement names. -/
import Derived.Test.YtpeejmolbmhjjaaF16
namespace Go.Proofs.Ytpeejmolbmhjjaa.Sx
set_option linter.unusedSimpArgs false
set_option linter.unusedVariables false
open Go
set_option maxRecDepth 100000
set_option maxHeartbeats 0
/-- The first k elements copied, the others zero. -/
def mix (z : List AV) (n : Nat) (es : List (List AV)) (k : Nat) : List AV := (es.take k).flatten ++ rep0 z (n - k)
theorem rep0_len2 (z : List AV) : ∀ n, (rep0 z n).length = n * z.length
  | 0 => by simp [rep0]
  | n + 1 => by simp [rep0, rep0_len2 z n, Nat.add_mul]; omega
theorem rep0_mem {z : List AV} {x : AV} : ∀ {n}, x ∈ rep0 z n → x ∈ z
  | 0, h => by simp [rep0] at h
  | n + 1, h => by
    simp only [rep0, List.mem_append] at h
    exact h.elim id rep0_mem
theorem flat_len2 {sz : Nat} : ∀ {es : List (List AV)}, (∀ xs ∈ es, xs.length = sz) → es.flatten.length = es.length * sz
  | [], _ => by simp
  | xs :: es, h => by
    have h1 := h xs (by simp)
    have h2 := @flat_len2 sz es fun ys hy => h ys (by simp [hy])
    simp only [List.flatten_cons, List.length_append, List.length_cons, h1, h2, Nat.add_mul]; omega
theorem mix_len {z : List AV} {n : Nat} {es : List (List AV)} {k : Nat} (hz : ∀ xs ∈ es, xs.length = z.length) (hn : es.length = n) (hk : k ≤ n) : (mix z n es k).length = n * z.length := by
  unfold mix
  rw [List.length_append, flat_len2 fun xs hx => hz xs (List.mem_of_mem_take hx), rep0_len2, List.length_take, ← Nat.add_mul]
  congr 1; omega
theorem mix_zero (z : List AV) (n : Nat) (es : List (List AV)) : mix z n es 0 = rep0 z n := by simp [mix]
theorem mix_all {z : List AV} {n : Nat} {es : List (List AV)} (hn : es.length = n) : mix z n es n = es.flatten := by
  subst hn; simp [mix, rep0]
theorem mix_mem {z : List AV} {n : Nat} {es : List (List AV)} {k : Nat} {p : AV → Prop} (h1 : ∀ xs ∈ es, ∀ x ∈ xs, p x) (h2 : ∀ x ∈ z, p x) : ∀ x ∈ mix z n es k, p x := by
  intro x hx
  simp only [mix, List.mem_append, List.mem_flatten] at hx
  rcases hx with ⟨xs, h3, h4⟩ | hx
  · exact h1 xs (List.mem_of_mem_take h3) x h4
  · exact h2 x (rep0_mem hx)
theorem mix_lay {z : List AV} {n : Nat} {es : List (List AV)} {k : Nat} {xs : List AV} (hz : ∀ xs ∈ es, xs.length = z.length) (hn : es.length = n) (hk : es[k]? = some xs) : lay (mix z n es k) (k * z.length) xs = mix z n es (k + 1) := by
  have hkl : k < es.length := (List.getElem?_eq_some_iff.1 hk).1
  have hxl : xs.length = z.length := hz xs (List.mem_of_getElem? hk)
  have hfl : (es.take k).flatten.length = k * z.length := by
    rw [flat_len2 fun xs hx => hz xs (List.mem_of_mem_take hx), List.length_take]; congr 1; omega
  unfold lay mix
  rw [List.take_left' hfl, ← List.drop_drop, List.drop_left' hfl, hxl, List.take_add_one, hk]
  rw [show n - k = (n - (k + 1)) + 1 by omega]
  simp [rep0, List.drop_left']
theorem alignL_self : ∀ {xs : List AV}, (∀ x ∈ xs, x.strip = x) → alignL xs xs = xs
  | [], _ => rfl
  | x :: xs, h => by
    simp only [alignL]
    rw [alignL_self fun y hy => h y (by simp [hy])]
    congr 1
    unfold alignA
    split
    · exact h _ (by simp)
    · rfl
theorem chunks_flatten {sz : Nat} : ∀ {es : List (List AV)}, (∀ xs ∈ es, xs.length = sz) → chunks sz es.length es.flatten = es
  | [], _ => rfl
  | xs :: es, h => by
    have hx := h xs (by simp)
    simp only [List.length_cons, chunks, List.flatten_cons]
    rw [List.take_left' hx, List.drop_left' hx, chunks_flatten fun ys hy => h ys (by simp [hy])]
theorem stripV_self {xs : List AV} (h : ∀ x ∈ xs, x.strip = x) : stripV xs = xs := by
  unfold stripV
  exact (List.map_congr_left h).trans (List.map_id _)
theorem goIf {c : Bool} {A : Prop} (hc : c = true) (h : A) : bif c then A else False := by rw [hc]; exact h
/-- An element without lists. -/
def flat (xs : List AV) : Prop := ∀ x ∈ xs, x.strip = x ∧ x.clean = true ∧ ∀ ub ut, patA ub ut x = true
theorem mix_pat {z : List AV} {n : Nat} {es : List (List AV)} {k : Nat} {ub ut : List Nat} (h1 : ∀ xs ∈ es, flat xs) (h2 : flat z) : (mix z n es k).all (patA ub ut) = true :=
  List.all_eq_true.2 (mix_mem (fun xs hx x hy => (h1 xs hx x hy).2.2 _ _) fun x hx => (h2 x hx).2.2 _ _)
theorem mix_align {z : List AV} {n : Nat} {es : List (List AV)} {k : Nat} (h1 : ∀ xs ∈ es, flat xs) (h2 : flat z) : alignL (mix z n es k) (mix z n es k) = mix z n es k :=
  alignL_self (mix_mem (fun xs hx x hy => (h1 xs hx x hy).1) fun x hx => (h2 x hx).1)
theorem goSt {off m : Nat} {cs ps : List AV} {A : Prop} (h : off + m ≤ cs.length) (hA : A) : bif Nat.ble (off + m) cs.length then A else False := by
  rw [show Nat.ble (off + m) cs.length = true from Nat.ble_eq_true_of_le h]; exact hA
theorem pat_row {ks : List Nat} {s : St} {b : Nat} {cs : List AV} (hm : s.mem = [(b, cs)]) (hcs : cs.all (patA s.ub s.ut) = true) (h : (({ s with mem := [] } : St).pat ks && s.ub.any fun j => Nat.beq b j) = true) : s.pat ks = true := by
  simp only [St.pat, Bool.and_eq_true] at h ⊢
  obtain ⟨⟨⟨⟨⟨⟨h1, h2⟩, h3⟩, h4⟩, h5⟩, h6⟩, h7⟩ := h
  refine ⟨⟨⟨⟨⟨h1, ?_⟩, h3⟩, h4⟩, h5⟩, h6⟩
  rw [hm]
  simp only [List.all_cons, List.all_nil, Bool.and_true, Bool.and_eq_true]
  exact ⟨hcs, h7⟩
theorem bytes_flat {l : List Int} : ∀ xs ∈ bytes l, xs.length = 1 ∧ flat xs := by
  intro xs hx
  simp only [bytes, List.mem_map] at hx
  obtain ⟨n, _, rfl⟩ := hx
  refine ⟨rfl, fun x hx => ?_⟩
  simp only [List.mem_singleton] at hx
  subst hx
  exact ⟨rfl, rfl, fun _ _ => rfl⟩
theorem bytes_get2 {l : List Int} {k : Nat} (h : k < (bytes l).length) : (bytes l)[k]? = some [.i .u8 (l.getD k 0)] := by
  have h : k < l.length := by simpa using h
  simp [bytes, List.getElem?_map, List.getD, List.getElem?_eq_getElem h]
theorem toByteS_ok (l : List Int) (hl : l.length ≤ 1100000) : Pure 131 [(false, [.lst 0 0 5 (bytes l)])] (.pv (false, [.lst 0 0 5 (bytes l)])) := by
  have hb1 : ∀ xs ∈ bytes l, xs.length = [AV.i .u8 0].length := fun xs hx => (bytes_flat xs hx).1
  have hb2 : ∀ xs ∈ bytes l, flat xs := fun xs hx => (bytes_flat xs hx).2
  have hz : flat [AV.i .u8 0] := by intro x hx; simp only [List.mem_singleton] at hx; subst hx; exact ⟨rfl, rfl, fun _ _ => rfl⟩
  have hbl : (bytes l).length = l.length := bytes_len l
  refine fn_of_vc tab_ok mixed Try.call131 Try.func131 rfl [] _ _ (by kernel_rfl) rfl rfl rfl ?_
  (conv => whnf)
  refine ⟨rfl, ?_, ?_, ?_, ?_⟩
  · omega
  · show ((bytes l).length : Int) * 1 ≤ _; omega
  · show ((bytes l).length : Int) ≤ _; omega
  (conv => whnf)
  rw [forceL_eq]
  (conv => whnf)
  refine ⟨Nat, fun x => x ≤ l.length, fun x => ⟨[(0, .one (.lst 0 0 5 (bytes l))), (3, .one (.row 7 (bytes l).length 5)), (4, .one (.i .i64 x))], [(7, mix [.i .u8 0] (bytes l).length (bytes l) x)], [(1, 0)], [7], [1]⟩, fun x => l.length - x, 0, fun x => ?_, ?_, ⟨(by repeat' (first | exact trivial | refine ⟨rfl, ?_⟩)), ⟨?_, (by repeat' (first | exact trivial | refine ⟨rfl, ?_⟩))⟩, (by repeat' (first | exact trivial | refine ⟨rfl, ?_⟩))⟩, ?_⟩
  · exact pat_row rfl (mix_pat hb2 hz) rfl
  · show 0 ≤ l.length; omega
  · show alignL (rep0 [.i .u8 0] (bytes l).length) _ = _
    rw [← mix_zero _ _ (bytes l)]; exact mix_align hb2 hz
  rintro k hk
  (conv => whnf); split <;> rename_i h4 <;> simp only [decide_eq_true_eq, decide_eq_false_iff_not] at h4
  case h_2 =>
    (conv => whnf)
    have hke : k = (bytes l).length := by omega
    subst hke
    refine retRow (by rfl) (by rfl) (by rfl) (by rfl) (by rfl) (by rfl) ?_ ?_ ?_
    · exact mix_len hb1 rfl (Nat.le_refl _)
    · rw [stripV_self (mix_mem (fun xs hx x hy => (hb2 xs hx x hy).1) fun x hx => (hz x hx).1)]
      exact mix_mem (fun xs hx x hy => (hb2 xs hx x hy).2.1) fun x hx => (hz x hx).2.1
    · show _ = _
      rw [stripV_self (mix_mem (fun xs hx x hy => (hb2 xs hx x hy).1) fun x hx => (hz x hx).1), mix_all rfl]
      show ({ res := .pv (false, [.lst 0 0 5 (chunks 1 (bytes l).length (bytes l).flatten)]) } : Out) = _
      have h := chunks_flatten hb1; simp only [List.length_cons, List.length_nil] at h; rw [h]
  have hlt : k < (bytes l).length := by omega
  (conv => whnf)
  refine goIdx [.i .u8 (l.getD k 0)] (by omega) rfl (by simpa using bytes_get2 hlt) ?_
  (conv => whnf)
  refine ⟨⟨by omega, by omega⟩, ?_⟩
  (conv => whnf)
  refine goIf ?_ ?_
  · show (true && Nat.ble (k * 1 + 1) (mix [.i .u8 0] (bytes l).length (bytes l) k).length && true) = true
    rw [mix_len hb1 rfl (by omega)]; simp; omega
  (conv => whnf)
  rw [forceL_eq]
  (conv => whnf)
  refine goW (by omega) (by omega) ?_
  (conv => whnf)
  refine ⟨k + 1, ?_, ⟨(by repeat' (first | exact trivial | refine ⟨rfl, ?_⟩)), ⟨?_, (by repeat' (first | exact trivial | refine ⟨rfl, ?_⟩))⟩, (by repeat' (first | exact trivial | refine ⟨rfl, ?_⟩))⟩, ?_⟩
  · show k + 1 ≤ l.length; omega
  · show alignL (lay (mix [.i .u8 0] (bytes l).length (bytes l) k) (k * 1) [.i .u8 (l.getD k 0)]) _ = _
    rw [show lay (mix [.i .u8 0] (bytes l).length (bytes l) k) (k * 1) [.i .u8 (l.getD k 0)] = _ from mix_lay hb1 rfl (bytes_get2 hlt)]; exact mix_align hb2 hz
  · show l.length - (k + 1) < l.length - k; omega
theorem toRange_ok (r : Rng) : Pure 162 [r.v] (.pv r.v) := by
  refine fn_of_vc tab_ok mixed Try.call162 Try.func162 rfl [] _ _ (by kernel_rfl) rfl rfl rfl ?_
  (conv => whnf); exact ret1 (by rfl) (by rfl) (by rfl)
theorem toEarly_ok (r : Early) : Pure 183 [r.v] (.pv r.v) := by
  refine fn_of_vc tab_ok mixed Try.call183 Try.func183 rfl [] _ _ (by kernel_rfl) rfl rfl rfl ?_
  (conv => whnf); exact ret1 (by rfl) (by rfl) (by rfl)
theorem toRangeS_ok (l : List Rng) (hl : l.length ≤ 1100000) : Pure 132 [(false, [.lst 0 0 189 (l.map Rng.c)])] (.pv (false, [.lst 0 0 108 (l.map Rng.c)])) := by
  have hb : ∀ xs ∈ l.map Rng.c, xs.length = [AV.i .i64 0, .i .i64 0].length ∧ flat xs := by
    intro xs hx
    obtain ⟨r, _, rfl⟩ := List.mem_map.1 hx
    refine ⟨rfl, fun x hx => ?_⟩
    simp only [Rng.c, List.mem_cons, List.not_mem_nil, or_false] at hx
    rcases hx with rfl | rfl <;> exact ⟨rfl, rfl, fun _ _ => rfl⟩
  have hb1 : ∀ xs ∈ l.map Rng.c, xs.length = [AV.i .i64 0, .i .i64 0].length := fun xs hx => (hb xs hx).1
  have hb2 : ∀ xs ∈ l.map Rng.c, flat xs := fun xs hx => (hb xs hx).2
  have hz : flat [AV.i .i64 0, .i .i64 0] := by
    intro x hx
    simp only [List.mem_cons, List.not_mem_nil, or_false] at hx
    rcases hx with rfl | rfl <;> exact ⟨rfl, rfl, fun _ _ => rfl⟩
  have hbl : (l.map Rng.c).length = l.length := by simp
  have get : ∀ k, k < (l.map Rng.c).length → ∃ r : Rng, (l.map Rng.c)[k]? = some r.c := fun k hk => by
    have hk : k < l.length := by simpa using hk
    exact ⟨l[k], by simp [List.getElem?_map, List.getElem?_eq_getElem hk]⟩
  refine fn_of_vc tab_ok mixed Try.call132 Try.func132 rfl [] _ _ (by kernel_rfl) rfl rfl rfl ?_
  (conv => whnf)
  refine ⟨rfl, ?_, ?_, ?_, ?_⟩
  · omega
  · show ((l.map Rng.c).length : Int) * 16 ≤ _; omega
  · show ((l.map Rng.c).length : Int) ≤ _; omega
  (conv => whnf)
  rw [forceL_eq]
  (conv => whnf)
  refine ⟨Nat, fun x => x ≤ l.length, fun x => ⟨[(0, .one (.lst 0 0 189 (l.map Rng.c))), (3, .one (.row 7 (l.map Rng.c).length 108)), (4, .one (.i .i64 x))], [(7, mix [AV.i .i64 0, .i .i64 0] (l.map Rng.c).length (l.map Rng.c) x)], [(1, 0)], [7], [1]⟩, fun x => l.length - x, 0, fun x => ?_, ?_, ⟨(by repeat' (first | exact trivial | refine ⟨rfl, ?_⟩)), ⟨?_, (by repeat' (first | exact trivial | refine ⟨rfl, ?_⟩))⟩, (by repeat' (first | exact trivial | refine ⟨rfl, ?_⟩))⟩, ?_⟩
  · exact pat_row rfl (mix_pat hb2 hz) rfl
  · show 0 ≤ l.length; omega
  · show alignL (rep0 [AV.i .i64 0, .i .i64 0] (l.map Rng.c).length) _ = _
    rw [← mix_zero _ _ (l.map Rng.c)]; exact mix_align hb2 hz
  rintro k hk
  (conv => whnf); split <;> rename_i h4 <;> simp only [decide_eq_true_eq, decide_eq_false_iff_not] at h4
  case h_2 =>
    (conv => whnf)
    have hke : k = (l.map Rng.c).length := by omega
    subst hke
    refine retRow (by rfl) (by rfl) (by rfl) (by rfl) (by rfl) (by rfl) ?_ ?_ ?_
    · exact mix_len hb1 rfl (Nat.le_refl _)
    · rw [stripV_self (mix_mem (fun xs hx x hy => (hb2 xs hx x hy).1) fun x hx => (hz x hx).1)]
      exact mix_mem (fun xs hx x hy => (hb2 xs hx x hy).2.1) fun x hx => (hz x hx).2.1
    · show _ = _
      rw [stripV_self (mix_mem (fun xs hx x hy => (hb2 xs hx x hy).1) fun x hx => (hz x hx).1), mix_all rfl]
      show ({ res := .pv (false, [.lst 0 0 108 (chunks 2 (l.map Rng.c).length (l.map Rng.c).flatten)]) } : Out) = _
      have h := chunks_flatten hb1; simp only [List.length_cons, List.length_nil] at h; rw [h]
  have hlt : k < (l.map Rng.c).length := by omega
  obtain ⟨r, hr⟩ := get k hlt
  (conv => whnf)
  refine goIdx r.c (by omega) rfl (by simpa using hr) ?_
  (conv => whnf); refine goP (toRange_ok r) ?_
  (conv => whnf)
  refine ⟨⟨by omega, by omega⟩, ?_⟩
  (conv => whnf)
  refine goIf ?_ ?_
  · show (true && Nat.ble (k * 2 + 2) (mix [AV.i .i64 0, .i .i64 0] (l.map Rng.c).length (l.map Rng.c) k).length && true) = true
    rw [mix_len hb1 rfl (by omega)]; simp; omega
  (conv => whnf)
  rw [forceL_eq]
  (conv => whnf)
  refine goW (by omega) (by omega) ?_
  (conv => whnf)
  refine ⟨k + 1, ?_, ⟨(by repeat' (first | exact trivial | refine ⟨rfl, ?_⟩)), ⟨?_, (by repeat' (first | exact trivial | refine ⟨rfl, ?_⟩))⟩, (by repeat' (first | exact trivial | refine ⟨rfl, ?_⟩))⟩, ?_⟩
  · show k + 1 ≤ l.length; omega
  · show alignL (lay (mix [AV.i .i64 0, .i .i64 0] (l.map Rng.c).length (l.map Rng.c) k) (k * 2) r.c) _ = _
    rw [show lay (mix [AV.i .i64 0, .i .i64 0] (l.map Rng.c).length (l.map Rng.c) k) (k * 2) r.c = _ from mix_lay hb1 rfl hr]; exact mix_align hb2 hz
  · show l.length - (k + 1) < l.length - k; omega
theorem toEarlyS_ok (l : List Early) (hl : l.length ≤ 1100000) : Pure 151 [(false, [.lst 0 0 206 (l.map Early.c)])] (.pv (false, [.lst 0 0 138 (l.map Early.c)])) := by
  have hb : ∀ xs ∈ l.map Early.c, xs.length = [AV.i .i64 0, .i .u8 0].length ∧ flat xs := by
    intro xs hx
    obtain ⟨r, _, rfl⟩ := List.mem_map.1 hx
    refine ⟨rfl, fun x hx => ?_⟩
    simp only [Early.c, List.mem_cons, List.not_mem_nil, or_false] at hx
    rcases hx with rfl | rfl <;> exact ⟨rfl, rfl, fun _ _ => rfl⟩
  have hb1 : ∀ xs ∈ l.map Early.c, xs.length = [AV.i .i64 0, .i .u8 0].length := fun xs hx => (hb xs hx).1
  have hb2 : ∀ xs ∈ l.map Early.c, flat xs := fun xs hx => (hb xs hx).2
  have hz : flat [AV.i .i64 0, .i .u8 0] := by
    intro x hx
    simp only [List.mem_cons, List.not_mem_nil, or_false] at hx
    rcases hx with rfl | rfl <;> exact ⟨rfl, rfl, fun _ _ => rfl⟩
  have hbl : (l.map Early.c).length = l.length := by simp
  have get : ∀ k, k < (l.map Early.c).length → ∃ r : Early, (l.map Early.c)[k]? = some r.c := fun k hk => by
    have hk : k < l.length := by simpa using hk
    exact ⟨l[k], by simp [List.getElem?_map, List.getElem?_eq_getElem hk]⟩
  refine fn_of_vc tab_ok mixed Try.call151 Try.func151 rfl [] _ _ (by kernel_rfl) rfl rfl rfl ?_
  (conv => whnf)
  refine ⟨rfl, ?_, ?_, ?_, ?_⟩
  · omega
  · show ((l.map Early.c).length : Int) * 16 ≤ _; omega
  · show ((l.map Early.c).length : Int) ≤ _; omega
  (conv => whnf)
  rw [forceL_eq]
  (conv => whnf)
  refine ⟨Nat, fun x => x ≤ l.length, fun x => ⟨[(0, .one (.lst 0 0 206 (l.map Early.c))), (3, .one (.row 7 (l.map Early.c).length 138)), (4, .one (.i .i64 x))], [(7, mix [AV.i .i64 0, .i .u8 0] (l.map Early.c).length (l.map Early.c) x)], [(1, 0)], [7], [1]⟩, fun x => l.length - x, 0, fun x => ?_, ?_, ⟨(by repeat' (first | exact trivial | refine ⟨rfl, ?_⟩)), ⟨?_, (by repeat' (first | exact trivial | refine ⟨rfl, ?_⟩))⟩, (by repeat' (first | exact trivial | refine ⟨rfl, ?_⟩))⟩, ?_⟩
  · exact pat_row rfl (mix_pat hb2 hz) rfl
  · show 0 ≤ l.length; omega
  · show alignL (rep0 [AV.i .i64 0, .i .u8 0] (l.map Early.c).length) _ = _
    rw [← mix_zero _ _ (l.map Early.c)]; exact mix_align hb2 hz
  rintro k hk
  (conv => whnf); split <;> rename_i h4 <;> simp only [decide_eq_true_eq, decide_eq_false_iff_not] at h4
  case h_2 =>
    (conv => whnf)
    have hke : k = (l.map Early.c).length := by omega
    subst hke
    refine retRow (by rfl) (by rfl) (by rfl) (by rfl) (by rfl) (by rfl) ?_ ?_ ?_
    · exact mix_len hb1 rfl (Nat.le_refl _)
    · rw [stripV_self (mix_mem (fun xs hx x hy => (hb2 xs hx x hy).1) fun x hx => (hz x hx).1)]
      exact mix_mem (fun xs hx x hy => (hb2 xs hx x hy).2.1) fun x hx => (hz x hx).2.1
    · show _ = _
      rw [stripV_self (mix_mem (fun xs hx x hy => (hb2 xs hx x hy).1) fun x hx => (hz x hx).1), mix_all rfl]
      show ({ res := .pv (false, [.lst 0 0 138 (chunks 2 (l.map Early.c).length (l.map Early.c).flatten)]) } : Out) = _
      have h := chunks_flatten hb1; simp only [List.length_cons, List.length_nil] at h; rw [h]
  have hlt : k < (l.map Early.c).length := by omega
  obtain ⟨r, hr⟩ := get k hlt
  (conv => whnf)
  refine goIdx r.c (by omega) rfl (by simpa using hr) ?_
  (conv => whnf); refine goP (toEarly_ok r) ?_
  (conv => whnf)
  refine ⟨⟨by omega, by omega⟩, ?_⟩
  (conv => whnf)
  refine goIf ?_ ?_
  · show (true && Nat.ble (k * 2 + 2) (mix [AV.i .i64 0, .i .u8 0] (l.map Early.c).length (l.map Early.c) k).length && true) = true
    rw [mix_len hb1 rfl (by omega)]; simp; omega
  (conv => whnf)
  rw [forceL_eq]
  (conv => whnf)
  refine goW (by omega) (by omega) ?_
  (conv => whnf)
  refine ⟨k + 1, ?_, ⟨(by repeat' (first | exact trivial | refine ⟨rfl, ?_⟩)), ⟨?_, (by repeat' (first | exact trivial | refine ⟨rfl, ?_⟩))⟩, (by repeat' (first | exact trivial | refine ⟨rfl, ?_⟩))⟩, ?_⟩
  · show k + 1 ≤ l.length; omega
  · show alignL (lay (mix [AV.i .i64 0, .i .u8 0] (l.map Early.c).length (l.map Early.c) k) (k * 2) r.c) _ = _
    rw [show lay (mix [AV.i .i64 0, .i .u8 0] (l.map Early.c).length (l.map Early.c) k) (k * 2) r.c = _ from mix_lay hb1 rfl hr]; exact mix_align hb2 hz
  · show l.length - (k + 1) < l.length - k; omega
/-- The cells of the laws' own mouths, ears and ends. -/
def Mouth.cL (e : Mouth) : List AV := [.i .i64 e.heard, .lst 0 0 5 (bytes e.keep), .i .i64 e.sent, .i .i64 e.room, .lst 0 0 189 (e.early.map Rng.c)]
def Ear.cL (e : Ear) : List AV := [.i .i64 e.next, .i .i64 e.room, .lst 0 0 5 (bytes e.got), .lst 0 0 206 (e.far.map Early.c)]
def End.cL (e : End) : List AV := [.i .i64 e.state, .i .i64 e.addr, .i .i64 e.n, .i .i64 e.peerAddr, .i .i64 e.peerN, .i .i64 e.base,
  .i .i64 e.out.heard, .lst 0 0 5 (bytes e.out.keep), .i .i64 e.out.sent, .i .i64 e.out.room, .lst 0 0 189 (e.out.early.map Rng.c),
  .i .i64 e.inn.next, .i .i64 e.inn.room, .lst 0 0 5 (bytes e.inn.got), .lst 0 0 206 (e.inn.far.map Early.c),
  .b e.closed, .b e.lastTold, .b e.lastHeard, .i .i64 e.peerLast, .i .i64 e.due, .i .i64 e.tries, .i .i64 e.pulse.mean, .i .i64 e.pulse.far, .i .i64 e.pulse.wait]
theorem toMouth_ok (e : Mouth) (h1 : e.keep.length ≤ 1100000) (h2 : e.early.length ≤ 1100000) : Pure 72 [(true, e.cL)] (.pv e.v) := by
  refine fn_of_vc tab_ok mixed Try.call72 Try.func72 rfl [] _ _ (by kernel_rfl) rfl rfl rfl ?_
  (conv => whnf); refine goP (toByteS_ok e.keep h1) ?_
  (conv => whnf); refine goP (toRangeS_ok e.early h2) ?_
  (conv => whnf); exact ret1 (by rfl) (by rfl) (by rfl)
theorem toEar_ok (e : Ear) (h1 : e.got.length ≤ 1100000) (h2 : e.far.length ≤ 1100000) : Pure 113 [(true, e.cL)] (.pv e.v) := by
  refine fn_of_vc tab_ok mixed Try.call113 Try.func113 rfl [] _ _ (by kernel_rfl) rfl rfl rfl ?_
  (conv => whnf); refine goP (toByteS_ok e.got h1) ?_
  (conv => whnf); refine goP (toEarlyS_ok e.far h2) ?_
  (conv => whnf); exact ret1 (by rfl) (by rfl) (by rfl)
theorem toClock_ok (c : Clock) : Pure 114 [c.v] (.pv c.v) := by
  refine fn_of_vc tab_ok mixed Try.call114 Try.func114 rfl [] _ _ (by kernel_rfl) rfl rfl rfl ?_
  (conv => whnf); exact ret1 (by rfl) (by rfl) (by rfl)
theorem toEnd_ok (e : End) (hs : e.small) : Pure 43 [(true, e.cL)] (.pv e.v) := by
  obtain ⟨h1, h2, h3, h4⟩ := hs
  refine fn_of_vc tab_ok mixed Try.call43 Try.func43 rfl [] _ _ (by kernel_rfl) rfl rfl rfl ?_
  (conv => whnf); refine goP (toMouth_ok e.out (by omega) (by omega)) ?_
  (conv => whnf); refine goP (toEar_ok e.inn (by omega) (by omega)) ?_
  (conv => whnf); refine goP (toClock_ok e.pulse) ?_
  (conv => whnf); exact ret1 (by rfl) (by rfl) (by rfl)
end Go.Proofs.Ytpeejmolbmhjjaa.Sx
