/- Texts of the claim, in few files: what the functions of the program come to; there is no condition beyond those each statement names. -/
import Derived.Test.YtpeejmolbmhjjaaBW0
section
namespace Go.Proofs.Ytpeejmolbmhjjaa.Sx
set_option linter.unusedSimpArgs false
set_option linter.unusedVariables false
open Go
set_option maxRecDepth 100000
set_option maxHeartbeats 0
structure Wire where
  to : Int
  bent : Bool
  data : List Int
def Wire.c (w : Wire) : List AV := [.i .i64 w.to, .b w.bent, .lst 0 0 5 (bytes w.data)]
abbrev Wire.v (w : Wire) : PV := (true, w.c)
/-- A list of bytes as an element. -/
def byc (l : List Int) : List AV := [.lst 0 0 5 (bytes l)]
theorem alignL_strip : ∀ xs : List AV, alignL xs (xs.map AV.strip) = xs.map AV.strip
  | [] => rfl
  | x :: xs => by
    simp only [List.map_cons, alignL]
    rw [alignL_strip xs]
    congr 1
    cases x with
    | lst t v e es => rfl
    | _ => rfl
theorem rep0_map (f : AV → AV) (z : List AV) : ∀ n, (rep0 z n).map f = rep0 (z.map f) n
  | 0 => rfl
  | n + 1 => by simp [rep0, rep0_map f z n]
theorem rep0_align (z : List AV) (n : Nat) : alignL (rep0 z n) (rep0 (z.map AV.strip) n) = rep0 (z.map AV.strip) n := by
  rw [← rep0_map]; exact alignL_strip _
theorem flat_of {xs : List AV} (h : xs.all (fun x => match x with | .lst 0 0 _ _ => true | .i _ _ => true | .b _ => true | _ => false) = true) : flat xs := by
  intro x hx
  have := List.all_eq_true.1 h x hx
  split at this
  · exact ⟨rfl, rfl, fun _ _ => rfl⟩
  · exact ⟨rfl, rfl, fun _ _ => rfl⟩
  · exact ⟨rfl, rfl, fun _ _ => rfl⟩
  · cases this
theorem get_map {α : Type} (f : α → List AV) (l : List α) (k : Nat) (hk : k < l.length) : (l.map f)[k]? = some (f l[k]) ∧ l[k] ∈ l := ⟨by simp [List.getElem?_map, List.getElem?_eq_getElem hk], List.getElem_mem hk⟩
theorem toWire_ok (r : Wire) (h : r.data.length ≤ 1100000) : Pure 153 [r.v] (.pv r.v) := by
  refine fn_of_vc tab_ok mixed Try.call153 Try.func153 rfl [] _ _ (by kernel_rfl) rfl rfl rfl ?_
  (conv => whnf); refine goP (toByteS_ok r.data h) ?_
  (conv => whnf); exact ret1 (by rfl) (by rfl) (by rfl)
theorem eqWire_ok (r : Wire) (h : r.data.length ≤ 1100000) : Pure 155 [r.v, r.v] (.pv (bool true)) := by
  refine fn_of_vc tab_ok mixed Try.call155 Try.func155 rfl [] _ _ (by kernel_rfl) rfl rfl rfl ?_
  repeat' ((conv => whnf); first
      | (refine goP (eqByteS_ok r.data h) ?_)
      | (split <;> rename_i hq <;> (try simp only [Bool.not_eq_eq_eq_not, Bool.not_true, Bool.not_false, decide_eq_true_eq, decide_eq_false_iff_not, inB_t, inB_f, bytes_len, List.length_map, Bool.and_eq_true, Bool.and_eq_false_iff, and_true] at hq) <;> (try (exfalso; first | omega | (simp_all; done))))
      | (refine goW (by first | omega | (simp; omega)) (by first | omega | (simp; omega)) ?_)
      | (refine ret1 (by rfl) (by rfl) (outB ?_); first | rfl | grind [inB])
      | (refine ret1 (by rfl) (by rfl) (outI ?_); first | rfl | omega | grind [inB])
      | (refine ret1 (by rfl) (by rfl) (outB ?_)) | (refine ret1 (by rfl) (by rfl) (outI ?_)))
theorem toWatchS_ok (l : List (Watch)) (hl : l.length ≤ 1100000)  : Pure 56 [(false, [.lst 0 0 72 (l.map Watch.c)])] (.pv (false, [.lst 0 0 24 (l.map Watch.c)])) := by
  have hb : ∀ xs ∈ l.map Watch.c, xs.length = ([AV.i .i64 0, .i .i64 0]).length ∧ flat xs := by
    intro xs hx
    obtain ⟨r, _, rfl⟩ := List.mem_map.1 hx
    exact ⟨rfl, flat_of rfl⟩
  have hb1 : ∀ xs ∈ l.map Watch.c, xs.length = ([AV.i .i64 0, .i .i64 0]).length := fun xs hx => (hb xs hx).1
  have hb2 : ∀ xs ∈ l.map Watch.c, flat xs := fun xs hx => (hb xs hx).2
  have hz : flat [AV.i .i64 0, .i .i64 0] := flat_of rfl
  have hbl : (l.map Watch.c).length = l.length := by simp
  have hbl1 : (l.map Watch.c).length = l.length := by simp
  refine fn_of_vc tab_ok mixed Try.call56 Try.func56 rfl [] _ _ (by kernel_rfl) rfl rfl rfl ?_
  (conv => whnf)
  refine ⟨rfl, ?_, ?_, ?_, ?_⟩
  · omega
  · show ((l.map Watch.c).length : Int) * 16 ≤ _; omega
  · show ((l.map Watch.c).length : Int) ≤ _; omega
  rw [show (l.map Watch.c).length = (l.map Watch.c).length by simp]
  (conv => whnf)
  rw [forceL_eq]
  (conv => whnf)
  refine ⟨Nat, fun x => x ≤ l.length, fun x => ⟨[(0, .one (.lst 0 0 72 (l.map Watch.c))), (3, .one (.row 7 (l.map Watch.c).length 24)), (4, .one (.i .i64 x))], [(7, mix [AV.i .i64 0, .i .i64 0] (l.map Watch.c).length (l.map Watch.c) x)], [(1, 0)], [7], [1]⟩, fun x => l.length - x, 0, fun x => ?_, ?_, ⟨(by repeat' (first | exact trivial | refine ⟨rfl, ?_⟩)), ⟨?_, (by repeat' (first | exact trivial | refine ⟨rfl, ?_⟩))⟩, (by repeat' (first | exact trivial | refine ⟨rfl, ?_⟩))⟩, ?_⟩
  · exact pat_row rfl (mix_pat hb2 hz) rfl
  · show 0 ≤ l.length; omega
  · show alignL (rep0 [AV.i .i64 0, .i .i64 0] (l.map Watch.c).length) _ = _
    rw [mix_zero]; exact rep0_align [AV.i .i64 0, .i .i64 0] _
  rintro k hk
  (conv => whnf); split <;> rename_i h4 <;> simp only [decide_eq_true_eq, decide_eq_false_iff_not] at h4
  case h_2 =>
    (conv => whnf)
    have hke : k = (l.map Watch.c).length := by omega
    subst hke
    refine retRow (by rfl) (by rfl) (by rfl) (by rfl) (by rfl) (by rfl) ?_ ?_ ?_
    · exact mix_len hb1 rfl (Nat.le_refl _)
    · rw [stripV_self (mix_mem (fun xs hx x hy => (hb2 xs hx x hy).1) fun x hx => (hz x hx).1)]
      exact mix_mem (fun xs hx x hy => (hb2 xs hx x hy).2.1) fun x hx => (hz x hx).2.1
    · show _ = _
      rw [stripV_self (mix_mem (fun xs hx x hy => (hb2 xs hx x hy).1) fun x hx => (hz x hx).1), mix_all rfl]
      show ({ res := .pv (false, [.lst 0 0 24 (chunks 2 (l.map Watch.c).length (l.map Watch.c).flatten)]) } : Out) = _
      have h := chunks_flatten hb1; simp only [List.length_cons, List.length_nil] at h; rw [h]
  have hlt : k < l.length := by omega
  obtain ⟨hr1, hm⟩ := get_map Watch.c l k hlt
  obtain ⟨hr, _⟩ := get_map Watch.c l k hlt
  generalize l[k] = r at hr1 hr hm
  (conv => whnf)
  refine goIdx (Watch.c r) (by omega) rfl (by simpa using hr1) ?_
  (conv => whnf); refine goP (toWatch_ok r) ?_
  (conv => whnf)
  refine ⟨⟨by omega, by omega⟩, ?_⟩
  (conv => whnf)
  refine goIf ?_ ?_
  · show (true && Nat.ble (k * 2 + 2) (mix [AV.i .i64 0, .i .i64 0] (l.map Watch.c).length (l.map Watch.c) k).length && true) = true
    rw [mix_len hb1 rfl (by omega)]; simp; omega
  (conv => whnf)
  rw [forceL_eq]
  (conv => whnf)
  refine goW (by omega) (by omega) ?_
  (conv => whnf)
  refine ⟨k + 1, ?_, ⟨(by repeat' (first | exact trivial | refine ⟨rfl, ?_⟩)), ⟨?_, (by repeat' (first | exact trivial | refine ⟨rfl, ?_⟩))⟩, (by repeat' (first | exact trivial | refine ⟨rfl, ?_⟩))⟩, ?_⟩
  · show k + 1 ≤ l.length; omega
  · show alignL (lay (mix [AV.i .i64 0, .i .i64 0] (l.map Watch.c).length (l.map Watch.c) k) (k * 2) (Watch.c r)) _ = _
    rw [show lay (mix [AV.i .i64 0, .i .i64 0] (l.map Watch.c).length (l.map Watch.c) k) (k * 2) (Watch.c r) = _ from mix_lay hb1 rfl hr]; exact mix_align hb2 hz
  · show l.length - (k + 1) < l.length - k; omega
theorem toEndS_ok (l : List (End)) (hl : l.length ≤ 1100000) (hs : ∀ e ∈ l, e.small) : Pure 57 [(false, [.lst 0 0 68 (l.map End.cL)])] (.pv (false, [.lst 0 0 34 (l.map End.c)])) := by
  have hb : ∀ xs ∈ l.map End.c, xs.length = ([AV.i .i64 0, .i .i64 0, .i .i64 0, .i .i64 0, .i .i64 0, .i .i64 0, .i .i64 0, .lst 0 0 5 [], .i .i64 0, .i .i64 0, .lst 0 0 108 [], .i .i64 0, .i .i64 0, .lst 0 0 5 [], .lst 0 0 138 [], .b false, .b false, .b false, .i .i64 0, .i .i64 0, .i .i64 0, .i .i64 0, .i .i64 0, .i .i64 0]).length ∧ flat xs := by
    intro xs hx
    obtain ⟨r, _, rfl⟩ := List.mem_map.1 hx
    exact ⟨rfl, flat_of rfl⟩
  have hb1 : ∀ xs ∈ l.map End.c, xs.length = ([AV.i .i64 0, .i .i64 0, .i .i64 0, .i .i64 0, .i .i64 0, .i .i64 0, .i .i64 0, .lst 0 0 5 [], .i .i64 0, .i .i64 0, .lst 0 0 108 [], .i .i64 0, .i .i64 0, .lst 0 0 5 [], .lst 0 0 138 [], .b false, .b false, .b false, .i .i64 0, .i .i64 0, .i .i64 0, .i .i64 0, .i .i64 0, .i .i64 0]).length := fun xs hx => (hb xs hx).1
  have hb2 : ∀ xs ∈ l.map End.c, flat xs := fun xs hx => (hb xs hx).2
  have hz : flat [AV.i .i64 0, .i .i64 0, .i .i64 0, .i .i64 0, .i .i64 0, .i .i64 0, .i .i64 0, .lst 0 0 5 [], .i .i64 0, .i .i64 0, .lst 0 0 108 [], .i .i64 0, .i .i64 0, .lst 0 0 5 [], .lst 0 0 138 [], .b false, .b false, .b false, .i .i64 0, .i .i64 0, .i .i64 0, .i .i64 0, .i .i64 0, .i .i64 0] := flat_of rfl
  have hbl : (l.map End.c).length = l.length := by simp
  have hbl1 : (l.map End.cL).length = l.length := by simp
  refine fn_of_vc tab_ok mixed Try.call57 Try.func57 rfl [] _ _ (by kernel_rfl) rfl rfl rfl ?_
  (conv => whnf)
  refine ⟨rfl, ?_, ?_, ?_, ?_⟩
  · omega
  · show ((l.map End.cL).length : Int) * 240 ≤ _; omega
  · show ((l.map End.cL).length : Int) ≤ _; omega
  rw [show (l.map End.cL).length = (l.map End.c).length by simp]
  (conv => whnf)
  rw [forceL_eq]
  (conv => whnf)
  refine ⟨Nat, fun x => x ≤ l.length, fun x => ⟨[(0, .one (.lst 0 0 68 (l.map End.cL))), (3, .one (.row 7 (l.map End.c).length 34)), (4, .one (.i .i64 x))], [(7, mix [AV.i .i64 0, .i .i64 0, .i .i64 0, .i .i64 0, .i .i64 0, .i .i64 0, .i .i64 0, .lst 0 0 5 [], .i .i64 0, .i .i64 0, .lst 0 0 108 [], .i .i64 0, .i .i64 0, .lst 0 0 5 [], .lst 0 0 138 [], .b false, .b false, .b false, .i .i64 0, .i .i64 0, .i .i64 0, .i .i64 0, .i .i64 0, .i .i64 0] (l.map End.c).length (l.map End.c) x)], [(1, 0)], [7], [1]⟩, fun x => l.length - x, 0, fun x => ?_, ?_, ⟨(by repeat' (first | exact trivial | refine ⟨rfl, ?_⟩)), ⟨?_, (by repeat' (first | exact trivial | refine ⟨rfl, ?_⟩))⟩, (by repeat' (first | exact trivial | refine ⟨rfl, ?_⟩))⟩, ?_⟩
  · exact pat_row rfl (mix_pat hb2 hz) rfl
  · show 0 ≤ l.length; omega
  · show alignL (rep0 [AV.i .i64 0, .i .i64 0, .i .i64 0, .i .i64 0, .i .i64 0, .i .i64 0, .i .i64 0, .lst 1 0 5 [], .i .i64 0, .i .i64 0, .lst 1 0 108 [], .i .i64 0, .i .i64 0, .lst 1 0 5 [], .lst 1 0 138 [], .b false, .b false, .b false, .i .i64 0, .i .i64 0, .i .i64 0, .i .i64 0, .i .i64 0, .i .i64 0] (l.map End.c).length) _ = _
    rw [mix_zero]; exact rep0_align [AV.i .i64 0, .i .i64 0, .i .i64 0, .i .i64 0, .i .i64 0, .i .i64 0, .i .i64 0, .lst 1 0 5 [], .i .i64 0, .i .i64 0, .lst 1 0 108 [], .i .i64 0, .i .i64 0, .lst 1 0 5 [], .lst 1 0 138 [], .b false, .b false, .b false, .i .i64 0, .i .i64 0, .i .i64 0, .i .i64 0, .i .i64 0, .i .i64 0] _
  rintro k hk
  (conv => whnf); split <;> rename_i h4 <;> simp only [decide_eq_true_eq, decide_eq_false_iff_not] at h4
  case h_2 =>
    (conv => whnf)
    have hke : k = (l.map End.c).length := by omega
    subst hke
    refine retRow (by rfl) (by rfl) (by rfl) (by rfl) (by rfl) (by rfl) ?_ ?_ ?_
    · exact mix_len hb1 rfl (Nat.le_refl _)
    · rw [stripV_self (mix_mem (fun xs hx x hy => (hb2 xs hx x hy).1) fun x hx => (hz x hx).1)]
      exact mix_mem (fun xs hx x hy => (hb2 xs hx x hy).2.1) fun x hx => (hz x hx).2.1
    · show _ = _
      rw [stripV_self (mix_mem (fun xs hx x hy => (hb2 xs hx x hy).1) fun x hx => (hz x hx).1), mix_all rfl]
      show ({ res := .pv (false, [.lst 0 0 34 (chunks 24 (l.map End.c).length (l.map End.c).flatten)]) } : Out) = _
      have h := chunks_flatten hb1; simp only [List.length_cons, List.length_nil] at h; rw [h]
  have hlt : k < l.length := by omega
  obtain ⟨hr1, hm⟩ := get_map End.cL l k hlt
  obtain ⟨hr, _⟩ := get_map End.c l k hlt
  generalize l[k] = r at hr1 hr hm
  (conv => whnf)
  refine goIdx (End.cL r) (by omega) rfl (by simpa using hr1) ?_
  (conv => whnf); refine goP (toEnd_ok r (hs r hm)) ?_
  (conv => whnf)
  refine ⟨⟨by omega, by omega⟩, ?_⟩
  (conv => whnf)
  refine goIf ?_ ?_
  · show (true && Nat.ble (k * 24 + 24) (mix [AV.i .i64 0, .i .i64 0, .i .i64 0, .i .i64 0, .i .i64 0, .i .i64 0, .i .i64 0, .lst 0 0 5 [], .i .i64 0, .i .i64 0, .lst 0 0 108 [], .i .i64 0, .i .i64 0, .lst 0 0 5 [], .lst 0 0 138 [], .b false, .b false, .b false, .i .i64 0, .i .i64 0, .i .i64 0, .i .i64 0, .i .i64 0, .i .i64 0] (l.map End.c).length (l.map End.c) k).length && true) = true
    rw [mix_len hb1 rfl (by omega)]; simp; omega
  (conv => whnf)
  rw [forceL_eq]
  (conv => whnf)
  refine goW (by omega) (by omega) ?_
  (conv => whnf)
  refine ⟨k + 1, ?_, ⟨(by repeat' (first | exact trivial | refine ⟨rfl, ?_⟩)), ⟨?_, (by repeat' (first | exact trivial | refine ⟨rfl, ?_⟩))⟩, (by repeat' (first | exact trivial | refine ⟨rfl, ?_⟩))⟩, ?_⟩
  · show k + 1 ≤ l.length; omega
  · show alignL (lay (mix [AV.i .i64 0, .i .i64 0, .i .i64 0, .i .i64 0, .i .i64 0, .i .i64 0, .i .i64 0, .lst 0 0 5 [], .i .i64 0, .i .i64 0, .lst 0 0 108 [], .i .i64 0, .i .i64 0, .lst 0 0 5 [], .lst 0 0 138 [], .b false, .b false, .b false, .i .i64 0, .i .i64 0, .i .i64 0, .i .i64 0, .i .i64 0, .i .i64 0] (l.map End.c).length (l.map End.c) k) (k * 24) (End.c r)) _ = _
    rw [show lay (mix [AV.i .i64 0, .i .i64 0, .i .i64 0, .i .i64 0, .i .i64 0, .i .i64 0, .i .i64 0, .lst 0 0 5 [], .i .i64 0, .i .i64 0, .lst 0 0 108 [], .i .i64 0, .i .i64 0, .lst 0 0 5 [], .lst 0 0 138 [], .b false, .b false, .b false, .i .i64 0, .i .i64 0, .i .i64 0, .i .i64 0, .i .i64 0, .i .i64 0] (l.map End.c).length (l.map End.c) k) (k * 24) (End.c r) = _ from mix_lay hb1 rfl hr]; exact mix_align hb2 hz
  · show l.length - (k + 1) < l.length - k; omega
theorem toWireS_ok (l : List (Wire)) (hl : l.length ≤ 1100000) (hs : ∀ e ∈ l, e.data.length ≤ 1100000) : Pure 117 [(false, [.lst 0 0 179 (l.map Wire.c)])] (.pv (false, [.lst 0 0 144 (l.map Wire.c)])) := by
  have hb : ∀ xs ∈ l.map Wire.c, xs.length = ([AV.i .i64 0, .b false, .lst 0 0 5 []]).length ∧ flat xs := by
    intro xs hx
    obtain ⟨r, _, rfl⟩ := List.mem_map.1 hx
    exact ⟨rfl, flat_of rfl⟩
  have hb1 : ∀ xs ∈ l.map Wire.c, xs.length = ([AV.i .i64 0, .b false, .lst 0 0 5 []]).length := fun xs hx => (hb xs hx).1
  have hb2 : ∀ xs ∈ l.map Wire.c, flat xs := fun xs hx => (hb xs hx).2
  have hz : flat [AV.i .i64 0, .b false, .lst 0 0 5 []] := flat_of rfl
  have hbl : (l.map Wire.c).length = l.length := by simp
  have hbl1 : (l.map Wire.c).length = l.length := by simp
  refine fn_of_vc tab_ok mixed Try.call117 Try.func117 rfl [] _ _ (by kernel_rfl) rfl rfl rfl ?_
  (conv => whnf)
  refine ⟨rfl, ?_, ?_, ?_, ?_⟩
  · omega
  · show ((l.map Wire.c).length : Int) * 40 ≤ _; omega
  · show ((l.map Wire.c).length : Int) ≤ _; omega
  rw [show (l.map Wire.c).length = (l.map Wire.c).length by simp]
  (conv => whnf)
  rw [forceL_eq]
  (conv => whnf)
  refine ⟨Nat, fun x => x ≤ l.length, fun x => ⟨[(0, .one (.lst 0 0 179 (l.map Wire.c))), (3, .one (.row 7 (l.map Wire.c).length 144)), (4, .one (.i .i64 x))], [(7, mix [AV.i .i64 0, .b false, .lst 0 0 5 []] (l.map Wire.c).length (l.map Wire.c) x)], [(1, 0)], [7], [1]⟩, fun x => l.length - x, 0, fun x => ?_, ?_, ⟨(by repeat' (first | exact trivial | refine ⟨rfl, ?_⟩)), ⟨?_, (by repeat' (first | exact trivial | refine ⟨rfl, ?_⟩))⟩, (by repeat' (first | exact trivial | refine ⟨rfl, ?_⟩))⟩, ?_⟩
  · exact pat_row rfl (mix_pat hb2 hz) rfl
  · show 0 ≤ l.length; omega
  · show alignL (rep0 [AV.i .i64 0, .b false, .lst 1 0 5 []] (l.map Wire.c).length) _ = _
    rw [mix_zero]; exact rep0_align [AV.i .i64 0, .b false, .lst 1 0 5 []] _
  rintro k hk
  (conv => whnf); split <;> rename_i h4 <;> simp only [decide_eq_true_eq, decide_eq_false_iff_not] at h4
  case h_2 =>
    (conv => whnf)
    have hke : k = (l.map Wire.c).length := by omega
    subst hke
    refine retRow (by rfl) (by rfl) (by rfl) (by rfl) (by rfl) (by rfl) ?_ ?_ ?_
    · exact mix_len hb1 rfl (Nat.le_refl _)
    · rw [stripV_self (mix_mem (fun xs hx x hy => (hb2 xs hx x hy).1) fun x hx => (hz x hx).1)]
      exact mix_mem (fun xs hx x hy => (hb2 xs hx x hy).2.1) fun x hx => (hz x hx).2.1
    · show _ = _
      rw [stripV_self (mix_mem (fun xs hx x hy => (hb2 xs hx x hy).1) fun x hx => (hz x hx).1), mix_all rfl]
      show ({ res := .pv (false, [.lst 0 0 144 (chunks 3 (l.map Wire.c).length (l.map Wire.c).flatten)]) } : Out) = _
      have h := chunks_flatten hb1; simp only [List.length_cons, List.length_nil] at h; rw [h]
  have hlt : k < l.length := by omega
  obtain ⟨hr1, hm⟩ := get_map Wire.c l k hlt
  obtain ⟨hr, _⟩ := get_map Wire.c l k hlt
  generalize l[k] = r at hr1 hr hm
  (conv => whnf)
  refine goIdx (Wire.c r) (by omega) rfl (by simpa using hr1) ?_
  (conv => whnf); refine goP (toWire_ok r (hs r hm)) ?_
  (conv => whnf)
  refine ⟨⟨by omega, by omega⟩, ?_⟩
  (conv => whnf)
  refine goIf ?_ ?_
  · show (true && Nat.ble (k * 3 + 3) (mix [AV.i .i64 0, .b false, .lst 0 0 5 []] (l.map Wire.c).length (l.map Wire.c) k).length && true) = true
    rw [mix_len hb1 rfl (by omega)]; simp; omega
  (conv => whnf)
  rw [forceL_eq]
  (conv => whnf)
  refine goW (by omega) (by omega) ?_
  (conv => whnf)
  refine ⟨k + 1, ?_, ⟨(by repeat' (first | exact trivial | refine ⟨rfl, ?_⟩)), ⟨?_, (by repeat' (first | exact trivial | refine ⟨rfl, ?_⟩))⟩, (by repeat' (first | exact trivial | refine ⟨rfl, ?_⟩))⟩, ?_⟩
  · show k + 1 ≤ l.length; omega
  · show alignL (lay (mix [AV.i .i64 0, .b false, .lst 0 0 5 []] (l.map Wire.c).length (l.map Wire.c) k) (k * 3) (Wire.c r)) _ = _
    rw [show lay (mix [AV.i .i64 0, .b false, .lst 0 0 5 []] (l.map Wire.c).length (l.map Wire.c) k) (k * 3) (Wire.c r) = _ from mix_lay hb1 rfl hr]; exact mix_align hb2 hz
  · show l.length - (k + 1) < l.length - k; omega
theorem toByteSS_ok (l : List (List Int)) (hl : l.length ≤ 1100000) (hs : ∀ e ∈ l, e.length ≤ 1100000) : Pure 118 [(false, [.lst 0 0 22 (l.map byc)])] (.pv (false, [.lst 0 0 22 (l.map byc)])) := by
  have hb : ∀ xs ∈ l.map byc, xs.length = ([AV.lst 0 0 5 []]).length ∧ flat xs := by
    intro xs hx
    obtain ⟨r, _, rfl⟩ := List.mem_map.1 hx
    exact ⟨rfl, flat_of rfl⟩
  have hb1 : ∀ xs ∈ l.map byc, xs.length = ([AV.lst 0 0 5 []]).length := fun xs hx => (hb xs hx).1
  have hb2 : ∀ xs ∈ l.map byc, flat xs := fun xs hx => (hb xs hx).2
  have hz : flat [AV.lst 0 0 5 []] := flat_of rfl
  have hbl : (l.map byc).length = l.length := by simp
  have hbl1 : (l.map byc).length = l.length := by simp
  refine fn_of_vc tab_ok mixed Try.call118 Try.func118 rfl [] _ _ (by kernel_rfl) rfl rfl rfl ?_
  (conv => whnf)
  refine ⟨rfl, ?_, ?_, ?_, ?_⟩
  · omega
  · show ((l.map byc).length : Int) * 24 ≤ _; omega
  · show ((l.map byc).length : Int) ≤ _; omega
  rw [show (l.map byc).length = (l.map byc).length by simp]
  (conv => whnf)
  rw [forceL_eq]
  (conv => whnf)
  refine ⟨Nat, fun x => x ≤ l.length, fun x => ⟨[(0, .one (.lst 0 0 22 (l.map byc))), (3, .one (.row 7 (l.map byc).length 22)), (4, .one (.i .i64 x))], [(7, mix [AV.lst 0 0 5 []] (l.map byc).length (l.map byc) x)], [(1, 0)], [7], [1]⟩, fun x => l.length - x, 0, fun x => ?_, ?_, ⟨(by repeat' (first | exact trivial | refine ⟨rfl, ?_⟩)), ⟨?_, (by repeat' (first | exact trivial | refine ⟨rfl, ?_⟩))⟩, (by repeat' (first | exact trivial | refine ⟨rfl, ?_⟩))⟩, ?_⟩
  · exact pat_row rfl (mix_pat hb2 hz) rfl
  · show 0 ≤ l.length; omega
  · show alignL (rep0 [AV.lst 1 0 5 []] (l.map byc).length) _ = _
    rw [mix_zero]; exact rep0_align [AV.lst 1 0 5 []] _
  rintro k hk
  (conv => whnf); split <;> rename_i h4 <;> simp only [decide_eq_true_eq, decide_eq_false_iff_not] at h4
  case h_2 =>
    (conv => whnf)
    have hke : k = (l.map byc).length := by omega
    subst hke
    refine retRow (by rfl) (by rfl) (by rfl) (by rfl) (by rfl) (by rfl) ?_ ?_ ?_
    · exact mix_len hb1 rfl (Nat.le_refl _)
    · rw [stripV_self (mix_mem (fun xs hx x hy => (hb2 xs hx x hy).1) fun x hx => (hz x hx).1)]
      exact mix_mem (fun xs hx x hy => (hb2 xs hx x hy).2.1) fun x hx => (hz x hx).2.1
    · show _ = _
      rw [stripV_self (mix_mem (fun xs hx x hy => (hb2 xs hx x hy).1) fun x hx => (hz x hx).1), mix_all rfl]
      show ({ res := .pv (false, [.lst 0 0 22 (chunks 1 (l.map byc).length (l.map byc).flatten)]) } : Out) = _
      have h := chunks_flatten hb1; simp only [List.length_cons, List.length_nil] at h; rw [h]
  have hlt : k < l.length := by omega
  obtain ⟨hr1, hm⟩ := get_map byc l k hlt
  obtain ⟨hr, _⟩ := get_map byc l k hlt
  generalize l[k] = r at hr1 hr hm
  (conv => whnf)
  refine goIdx (byc r) (by omega) rfl (by simpa using hr1) ?_
  (conv => whnf); refine goP (toByteS_ok r (hs r hm)) ?_
  (conv => whnf)
  refine ⟨⟨by omega, by omega⟩, ?_⟩
  (conv => whnf)
  refine goIf ?_ ?_
  · show (true && Nat.ble (k * 1 + 1) (mix [AV.lst 0 0 5 []] (l.map byc).length (l.map byc) k).length && true) = true
    rw [mix_len hb1 rfl (by omega)]; simp; omega
  (conv => whnf)
  rw [forceL_eq]
  (conv => whnf)
  refine goW (by omega) (by omega) ?_
  (conv => whnf)
  refine ⟨k + 1, ?_, ⟨(by repeat' (first | exact trivial | refine ⟨rfl, ?_⟩)), ⟨?_, (by repeat' (first | exact trivial | refine ⟨rfl, ?_⟩))⟩, (by repeat' (first | exact trivial | refine ⟨rfl, ?_⟩))⟩, ?_⟩
  · show k + 1 ≤ l.length; omega
  · show alignL (lay (mix [AV.lst 0 0 5 []] (l.map byc).length (l.map byc) k) (k * 1) (byc r)) _ = _
    rw [show lay (mix [AV.lst 0 0 5 []] (l.map byc).length (l.map byc) k) (k * 1) (byc r) = _ from mix_lay hb1 rfl hr]; exact mix_align hb2 hz
  · show l.length - (k + 1) < l.length - k; omega
theorem szT_r2 {left : Int} {n : Nat} (h : 0 ≤ left ∧ left ≤ 1048576) : -1 ≤ szT left n ∧ szT left n ≤ 1048576 ∧ (0 ≤ szT left n → (n : Int) ≤ 1048576) := by
  unfold szT; split <;> omega
theorem szWatchS_ok (l : List Watch) (left : Int) (h0 : 0 ≤ left ∧ left ≤ 1048576) (hl : l.length ≤ 9223372036854775807) : Pure 54 [(false, [.lst 0 0 72 (l.map Watch.c)]), int left] (.pv (int (szT left l.length))) := by
  refine fn_of_vc tab_ok mixed Try.call54 Try.func54 rfl [] _ _ (by kernel_rfl) rfl rfl rfl ?_
  repeat' ((conv => whnf); first
      | (fail)
      | (split <;> rename_i hq <;> (try simp only [Bool.not_eq_eq_eq_not, Bool.not_true, Bool.not_false, decide_eq_true_eq, decide_eq_false_iff_not, inB_t, inB_f, bytes_len, List.length_map, Bool.and_eq_true, Bool.and_eq_false_iff, and_true] at hq) <;> (try (exfalso; first | omega | (simp_all; done))))
      | (refine goW (by first | omega | (simp; omega)) (by first | omega | (simp; omega)) ?_)
      | (refine ret1 (by rfl) (by rfl) (outB ?_); first | rfl | grind [szT])
      | (refine ret1 (by rfl) (by rfl) (outI ?_); first | rfl | omega | grind [szT])
      | (refine ret1 (by rfl) (by rfl) (outB ?_)) | (refine ret1 (by rfl) (by rfl) (outI ?_)))
theorem szWire_ok (r : Wire) (left : Int) (h0 : 0 ≤ left ∧ left ≤ 1048576) (hl : r.data.length ≤ 9223372036854775807) : Pure 152 [r.v, int left] (.pv (int (szT left r.data.length))) := by
  refine fn_of_vc tab_ok mixed Try.call152 Try.func152 rfl [] _ _ (by kernel_rfl) rfl rfl rfl ?_
  (conv => whnf); refine goP (szByteS_ok r.data left h0 hl) ?_
  (conv => whnf); split <;> rename_i hq <;> simp only [decide_eq_true_eq, decide_eq_false_iff_not] at hq
  · have : szT left r.data.length = -1 := by unfold szT at hq ⊢; split at hq <;> simp_all <;> omega
    rw [this]; (conv => whnf); exact ret1 (by rfl) (by rfl) (by rfl)
  · (conv => whnf); exact ret1 (by rfl) (by rfl) (by rfl)
/-- What is left: none, or all was small. -/
def SzR (p : Prop) (v : TV) : Prop := ∃ n : Int, v = .pv (int n) ∧ -1 ≤ n ∧ n ≤ 1048576 ∧ (0 ≤ n → p)
theorem szEndS_ok (l : List (End)) (left : Int) (h0 : 0 ≤ left ∧ left ≤ 1048576) (hl : l.length ≤ 9223372036854775807) (hs : ∀ e ∈ l, e.fits) : Fx 55 [(false, [.lst 0 0 68 (l.map End.cL)]), int left] (SzR (l.length ≤ 1048576 ∧ ∀ e ∈ l, e.small)) := by
  have hll : (l.map End.cL).length = l.length := by simp
  refine fn_of_vc tab_ok mixed Try.call55 Try.func55 rfl [] _ _ (by kernel_rfl) rfl rfl rfl ?_
  (conv => whnf); refine goW (by omega) (by omega) ?_
  (conv => whnf); split <;> rename_i hq <;> simp only [decide_eq_true_eq, decide_eq_false_iff_not] at hq
  · (conv => whnf); exact retE (by rfl) (by rfl) ⟨-1, rfl, by omega, by omega, fun h => by omega⟩
  (conv => whnf)
  refine ⟨Nat × Int, fun x => x.1 ≤ l.length ∧ (0 ≤ x.2 ∧ x.2 ≤ 1048576) ∧ ∀ j (hj : j < l.length), j < x.1 → (fun e : End => e.small) l[j], fun x => ⟨[(0, .one (.lst 0 0 68 (l.map End.cL))), (1, .one (.i .i64 x.2)), (5, .one (.i .i64 x.1))], [], [(1, 0)], [], [1]⟩, fun x => l.length - x.1, (0, left - (l.map End.cL).length), fun x => rfl, ?_, (by refine ⟨?_, ?_, ?_⟩ <;> repeat' (first | exact trivial | refine ⟨rfl, ?_⟩)), ?_⟩
  · exact ⟨by simp, by dsimp only; omega, fun j _ hj => by simp at hj⟩
  rintro ⟨k, left2⟩ ⟨hk, hleft, hj⟩
  dsimp only at hk hleft hj
  (conv => whnf); split <;> rename_i h4 <;> simp only [decide_eq_true_eq, decide_eq_false_iff_not] at h4
  case h_2 =>
    (conv => whnf)
    refine retE (by rfl) (by rfl) ⟨left2, rfl, by omega, by omega, fun h => ⟨by omega, fun e he => ?_⟩⟩
    obtain ⟨j, hj1, rfl⟩ := List.getElem_of_mem he
    exact hj j hj1 (by omega)
  have hlt : k < l.length := by omega
  obtain ⟨hr, hm⟩ := get_map End.cL l k hlt
  have hke : ∀ p : End → Prop, p l[k] → ∀ j (hj : j < l.length), j = k → p l[j] := fun p hp j hj e => by subst e; exact hp
  generalize l[k] = r at hr hm hke
  (conv => whnf)
  refine goIdx (End.cL r) (by omega) rfl (by simpa using hr) ?_
  (conv => whnf); refine goP (szEnd_ok r left2 (by omega) (hs r hm)) ?_
  (conv => whnf); split <;> rename_i hq2 <;> simp only [decide_eq_true_eq, decide_eq_false_iff_not] at hq2
  · (conv => whnf); exact retE (by rfl) (by rfl) ⟨-1, rfl, by omega, by omega, fun h => by omega⟩
  obtain ⟨a1, a2, a3⟩ := szT_r (by omega) hq2
  (conv => whnf); refine goW (by omega) (by omega) ?_
  (conv => whnf)
  refine ⟨(k + 1, _), ?_, (by refine ⟨?_, ?_, ?_⟩ <;> repeat' (first | exact trivial | refine ⟨rfl, ?_⟩)), ?_⟩
  · refine ⟨by dsimp only; omega, a1, fun j hj1 hj2 => ?_⟩
    by_cases hjk : j = k
    · exact hke (fun e : End => e.small) (szT_small (by omega) hq2) j hj1 hjk
    · exact hj j hj1 (by dsimp only at hj2; omega)
  · show l.length - (k + 1) < l.length - k; omega
theorem szWireS_ok (l : List (Wire)) (left : Int) (h0 : 0 ≤ left ∧ left ≤ 1048576) (hl : l.length ≤ 9223372036854775807) (hs : ∀ e ∈ l, e.data.length ≤ 9223372036854775807) : Fx 115 [(false, [.lst 0 0 179 (l.map Wire.c)]), int left] (SzR (l.length ≤ 1048576 ∧ ∀ e ∈ l, e.data.length ≤ 1100000)) := by
  have hll : (l.map Wire.c).length = l.length := by simp
  refine fn_of_vc tab_ok mixed Try.call115 Try.func115 rfl [] _ _ (by kernel_rfl) rfl rfl rfl ?_
  (conv => whnf); refine goW (by omega) (by omega) ?_
  (conv => whnf); split <;> rename_i hq <;> simp only [decide_eq_true_eq, decide_eq_false_iff_not] at hq
  · (conv => whnf); exact retE (by rfl) (by rfl) ⟨-1, rfl, by omega, by omega, fun h => by omega⟩
  (conv => whnf)
  refine ⟨Nat × Int, fun x => x.1 ≤ l.length ∧ (0 ≤ x.2 ∧ x.2 ≤ 1048576) ∧ ∀ j (hj : j < l.length), j < x.1 → (fun e : Wire => e.data.length ≤ 1100000) l[j], fun x => ⟨[(0, .one (.lst 0 0 179 (l.map Wire.c))), (1, .one (.i .i64 x.2)), (5, .one (.i .i64 x.1))], [], [(1, 0)], [], [1]⟩, fun x => l.length - x.1, (0, left - (l.map Wire.c).length), fun x => rfl, ?_, (by refine ⟨?_, ?_, ?_⟩ <;> repeat' (first | exact trivial | refine ⟨rfl, ?_⟩)), ?_⟩
  · exact ⟨by simp, by dsimp only; omega, fun j _ hj => by simp at hj⟩
  rintro ⟨k, left2⟩ ⟨hk, hleft, hj⟩
  dsimp only at hk hleft hj
  (conv => whnf); split <;> rename_i h4 <;> simp only [decide_eq_true_eq, decide_eq_false_iff_not] at h4
  case h_2 =>
    (conv => whnf)
    refine retE (by rfl) (by rfl) ⟨left2, rfl, by omega, by omega, fun h => ⟨by omega, fun e he => ?_⟩⟩
    obtain ⟨j, hj1, rfl⟩ := List.getElem_of_mem he
    exact hj j hj1 (by omega)
  have hlt : k < l.length := by omega
  obtain ⟨hr, hm⟩ := get_map Wire.c l k hlt
  have hke : ∀ p : Wire → Prop, p l[k] → ∀ j (hj : j < l.length), j = k → p l[j] := fun p hp j hj e => by subst e; exact hp
  generalize l[k] = r at hr hm hke
  (conv => whnf)
  refine goIdx (Wire.c r) (by omega) rfl (by simpa using hr) ?_
  (conv => whnf); refine goP (szWire_ok r left2 (by omega) (hs r hm)) ?_
  (conv => whnf); split <;> rename_i hq2 <;> simp only [decide_eq_true_eq, decide_eq_false_iff_not] at hq2
  · (conv => whnf); exact retE (by rfl) (by rfl) ⟨-1, rfl, by omega, by omega, fun h => by omega⟩
  obtain ⟨a1, a2, a3⟩ := szT_r (by omega) hq2
  (conv => whnf); refine goW (by omega) (by omega) ?_
  (conv => whnf)
  refine ⟨(k + 1, _), ?_, (by refine ⟨?_, ?_, ?_⟩ <;> repeat' (first | exact trivial | refine ⟨rfl, ?_⟩)), ?_⟩
  · refine ⟨by dsimp only; omega, a1, fun j hj1 hj2 => ?_⟩
    by_cases hjk : j = k
    · exact hke (fun e : Wire => e.data.length ≤ 1100000) ((by have := (szT_r (by omega) hq2).2.2; omega)) j hj1 hjk
    · exact hj j hj1 (by dsimp only at hj2; omega)
  · show l.length - (k + 1) < l.length - k; omega
theorem szByteSS_ok (l : List (List Int)) (left : Int) (h0 : 0 ≤ left ∧ left ≤ 1048576) (hl : l.length ≤ 9223372036854775807) (hs : ∀ e ∈ l, e.length ≤ 9223372036854775807) : Fx 116 [(false, [.lst 0 0 22 (l.map byc)]), int left] (SzR (l.length ≤ 1048576 ∧ ∀ e ∈ l, e.length ≤ 1100000)) := by
  have hll : (l.map byc).length = l.length := by simp
  refine fn_of_vc tab_ok mixed Try.call116 Try.func116 rfl [] _ _ (by kernel_rfl) rfl rfl rfl ?_
  (conv => whnf); refine goW (by omega) (by omega) ?_
  (conv => whnf); split <;> rename_i hq <;> simp only [decide_eq_true_eq, decide_eq_false_iff_not] at hq
  · (conv => whnf); exact retE (by rfl) (by rfl) ⟨-1, rfl, by omega, by omega, fun h => by omega⟩
  (conv => whnf)
  refine ⟨Nat × Int, fun x => x.1 ≤ l.length ∧ (0 ≤ x.2 ∧ x.2 ≤ 1048576) ∧ ∀ j (hj : j < l.length), j < x.1 → (fun e : List Int => e.length ≤ 1100000) l[j], fun x => ⟨[(0, .one (.lst 0 0 22 (l.map byc))), (1, .one (.i .i64 x.2)), (5, .one (.i .i64 x.1))], [], [(1, 0)], [], [1]⟩, fun x => l.length - x.1, (0, left - (l.map byc).length), fun x => rfl, ?_, (by refine ⟨?_, ?_, ?_⟩ <;> repeat' (first | exact trivial | refine ⟨rfl, ?_⟩)), ?_⟩
  · exact ⟨by simp, by dsimp only; omega, fun j _ hj => by simp at hj⟩
  rintro ⟨k, left2⟩ ⟨hk, hleft, hj⟩
  dsimp only at hk hleft hj
  (conv => whnf); split <;> rename_i h4 <;> simp only [decide_eq_true_eq, decide_eq_false_iff_not] at h4
  case h_2 =>
    (conv => whnf)
    refine retE (by rfl) (by rfl) ⟨left2, rfl, by omega, by omega, fun h => ⟨by omega, fun e he => ?_⟩⟩
    obtain ⟨j, hj1, rfl⟩ := List.getElem_of_mem he
    exact hj j hj1 (by omega)
  have hlt : k < l.length := by omega
  obtain ⟨hr, hm⟩ := get_map byc l k hlt
  have hke : ∀ p : List Int → Prop, p l[k] → ∀ j (hj : j < l.length), j = k → p l[j] := fun p hp j hj e => by subst e; exact hp
  generalize l[k] = r at hr hm hke
  (conv => whnf)
  refine goIdx (byc r) (by omega) rfl (by simpa using hr) ?_
  (conv => whnf); refine goP (szByteS_ok r left2 (by omega) (hs r hm)) ?_
  (conv => whnf); split <;> rename_i hq2 <;> simp only [decide_eq_true_eq, decide_eq_false_iff_not] at hq2
  · (conv => whnf); exact retE (by rfl) (by rfl) ⟨-1, rfl, by omega, by omega, fun h => by omega⟩
  obtain ⟨a1, a2, a3⟩ := szT_r (by omega) hq2
  (conv => whnf); refine goW (by omega) (by omega) ?_
  (conv => whnf)
  refine ⟨(k + 1, _), ?_, (by refine ⟨?_, ?_, ?_⟩ <;> repeat' (first | exact trivial | refine ⟨rfl, ?_⟩)), ?_⟩
  · refine ⟨by dsimp only; omega, a1, fun j hj1 hj2 => ?_⟩
    by_cases hjk : j = k
    · exact hke (fun e : List Int => e.length ≤ 1100000) ((by have := (szT_r (by omega) hq2).2.2; omega)) j hj1 hjk
    · exact hj j hj1 (by dsimp only at hj2; omega)
  · show l.length - (k + 1) < l.length - k; omega
theorem eqIntS_ok (l : List (Int)) (hl : l.length ≤ 1100000)  : Pure 58 [(false, [.lst 0 0 3 (l.map ic)]), (false, [.lst 0 0 3 (l.map ic)])] (.pv (bool true)) := by
  have hll : (l.map ic).length = l.length := by simp
  refine fn_of_vc tab_ok mixed Try.call58 Try.func58 rfl [] _ _ (by kernel_rfl) rfl rfl rfl ?_
  (conv => whnf); split <;> rename_i hq
  · simp at hq
  (conv => whnf)
  refine ⟨Nat, fun x => x ≤ l.length, fun x => ⟨[(0, .one (.lst 0 0 3 (l.map ic))), (1, .one (.lst 0 0 3 (l.map ic))), (5, .one (.i .i64 x))], [], [(1, 0)], [], [1]⟩, fun x => l.length - x, 0, fun x => rfl, ?_, (by refine ⟨?_, ?_, ?_⟩ <;> repeat' (first | exact trivial | refine ⟨rfl, ?_⟩)), ?_⟩
  · show 0 ≤ l.length; omega
  rintro k hk
  (conv => whnf); split <;> rename_i h4 <;> simp only [decide_eq_true_eq, decide_eq_false_iff_not] at h4
  case h_2 =>
    (conv => whnf); exact ret1 (by rfl) (by rfl) (by rfl)
  have hlt : k < l.length := by omega
  obtain ⟨hr, hm⟩ := get_map ic l k hlt
  generalize l[k] = r at hr hm
  (conv => whnf)
  refine ⟨[0, 1, 2, 3, 4, 5, 6, 7, 8], [], (by kernel_rfl), ?_⟩
  (conv => whnf)
  refine goIdx (ic r) (by omega) rfl (by simpa using hr) ?_
  (conv => whnf)
  refine goIdx (ic r) (by omega) rfl (by simpa using hr) ?_
  (conv => whnf); split <;> rename_i hq2
  · simp at hq2
  (conv => whnf)
  refine goW (by omega) (by omega) ?_
  (conv => whnf)
  refine ⟨k + 1, ?_, (by refine ⟨?_, ?_, ?_⟩ <;> repeat' (first | exact trivial | refine ⟨rfl, ?_⟩)), ?_⟩
  · show k + 1 ≤ l.length; omega
  · show l.length - (k + 1) < l.length - k; omega
theorem eqWatchS_ok (l : List (Watch)) (hl : l.length ≤ 1100000)  : Pure 59 [(false, [.lst 0 0 24 (l.map Watch.c)]), (false, [.lst 0 0 24 (l.map Watch.c)])] (.pv (bool true)) := by
  have hll : (l.map Watch.c).length = l.length := by simp
  refine fn_of_vc tab_ok mixed Try.call59 Try.func59 rfl [] _ _ (by kernel_rfl) rfl rfl rfl ?_
  (conv => whnf); split <;> rename_i hq
  · simp at hq
  (conv => whnf)
  refine ⟨Nat, fun x => x ≤ l.length, fun x => ⟨[(0, .one (.lst 0 0 24 (l.map Watch.c))), (1, .one (.lst 0 0 24 (l.map Watch.c))), (5, .one (.i .i64 x))], [], [(1, 0)], [], [1]⟩, fun x => l.length - x, 0, fun x => rfl, ?_, (by refine ⟨?_, ?_, ?_⟩ <;> repeat' (first | exact trivial | refine ⟨rfl, ?_⟩)), ?_⟩
  · show 0 ≤ l.length; omega
  rintro k hk
  (conv => whnf); split <;> rename_i h4 <;> simp only [decide_eq_true_eq, decide_eq_false_iff_not] at h4
  case h_2 =>
    (conv => whnf); exact ret1 (by rfl) (by rfl) (by rfl)
  have hlt : k < l.length := by omega
  obtain ⟨hr, hm⟩ := get_map Watch.c l k hlt
  generalize l[k] = r at hr hm
  (conv => whnf)
  refine ⟨[0, 1, 2, 3, 4, 5, 6, 7, 8, 9], [], (by kernel_rfl), ?_⟩
  (conv => whnf)
  refine goIdx (Watch.c r) (by omega) rfl (by simpa using hr) ?_
  (conv => whnf)
  refine goIdx (Watch.c r) (by omega) rfl (by simpa using hr) ?_
  (conv => whnf); refine goP (eqWatch_ok r) ?_
  (conv => whnf)
  refine goW (by omega) (by omega) ?_
  (conv => whnf)
  refine ⟨k + 1, ?_, (by refine ⟨?_, ?_, ?_⟩ <;> repeat' (first | exact trivial | refine ⟨rfl, ?_⟩)), ?_⟩
  · show k + 1 ≤ l.length; omega
  · show l.length - (k + 1) < l.length - k; omega
theorem eqEndS_ok (l : List (End)) (hl : l.length ≤ 1100000) (hs : ∀ e ∈ l, e.small) : Pure 60 [(false, [.lst 0 0 34 (l.map End.c)]), (false, [.lst 0 0 34 (l.map End.c)])] (.pv (bool true)) := by
  have hll : (l.map End.c).length = l.length := by simp
  refine fn_of_vc tab_ok mixed Try.call60 Try.func60 rfl [] _ _ (by kernel_rfl) rfl rfl rfl ?_
  (conv => whnf); split <;> rename_i hq
  · simp at hq
  (conv => whnf)
  refine ⟨Nat, fun x => x ≤ l.length, fun x => ⟨[(0, .one (.lst 0 0 34 (l.map End.c))), (1, .one (.lst 0 0 34 (l.map End.c))), (5, .one (.i .i64 x))], [], [(1, 0)], [], [1]⟩, fun x => l.length - x, 0, fun x => rfl, ?_, (by refine ⟨?_, ?_, ?_⟩ <;> repeat' (first | exact trivial | refine ⟨rfl, ?_⟩)), ?_⟩
  · show 0 ≤ l.length; omega
  rintro k hk
  (conv => whnf); split <;> rename_i h4 <;> simp only [decide_eq_true_eq, decide_eq_false_iff_not] at h4
  case h_2 =>
    (conv => whnf); exact ret1 (by rfl) (by rfl) (by rfl)
  have hlt : k < l.length := by omega
  obtain ⟨hr, hm⟩ := get_map End.c l k hlt
  generalize l[k] = r at hr hm
  (conv => whnf)
  refine ⟨[0, 1, 2, 3, 4, 5, 6, 7, 8, 9], [], (by kernel_rfl), ?_⟩
  (conv => whnf)
  refine goIdx (End.c r) (by omega) rfl (by simpa using hr) ?_
  (conv => whnf)
  refine goIdx (End.c r) (by omega) rfl (by simpa using hr) ?_
  (conv => whnf); refine goP (eqEnd_ok r (hs r hm)) ?_
  (conv => whnf)
  refine goW (by omega) (by omega) ?_
  (conv => whnf)
  refine ⟨k + 1, ?_, (by refine ⟨?_, ?_, ?_⟩ <;> repeat' (first | exact trivial | refine ⟨rfl, ?_⟩)), ?_⟩
  · show k + 1 ≤ l.length; omega
  · show l.length - (k + 1) < l.length - k; omega
theorem eqWireS_ok (l : List (Wire)) (hl : l.length ≤ 1100000) (hs : ∀ e ∈ l, e.data.length ≤ 1100000) : Pure 121 [(false, [.lst 0 0 144 (l.map Wire.c)]), (false, [.lst 0 0 144 (l.map Wire.c)])] (.pv (bool true)) := by
  have hll : (l.map Wire.c).length = l.length := by simp
  refine fn_of_vc tab_ok mixed Try.call121 Try.func121 rfl [] _ _ (by kernel_rfl) rfl rfl rfl ?_
  (conv => whnf); split <;> rename_i hq
  · simp at hq
  (conv => whnf)
  refine ⟨Nat, fun x => x ≤ l.length, fun x => ⟨[(0, .one (.lst 0 0 144 (l.map Wire.c))), (1, .one (.lst 0 0 144 (l.map Wire.c))), (5, .one (.i .i64 x))], [], [(1, 0)], [], [1]⟩, fun x => l.length - x, 0, fun x => rfl, ?_, (by refine ⟨?_, ?_, ?_⟩ <;> repeat' (first | exact trivial | refine ⟨rfl, ?_⟩)), ?_⟩
  · show 0 ≤ l.length; omega
  rintro k hk
  (conv => whnf); split <;> rename_i h4 <;> simp only [decide_eq_true_eq, decide_eq_false_iff_not] at h4
  case h_2 =>
    (conv => whnf); exact ret1 (by rfl) (by rfl) (by rfl)
  have hlt : k < l.length := by omega
  obtain ⟨hr, hm⟩ := get_map Wire.c l k hlt
  generalize l[k] = r at hr hm
  (conv => whnf)
  refine ⟨[0, 1, 2, 3, 4, 5, 6, 7, 8, 9], [], (by kernel_rfl), ?_⟩
  (conv => whnf)
  refine goIdx (Wire.c r) (by omega) rfl (by simpa using hr) ?_
  (conv => whnf)
  refine goIdx (Wire.c r) (by omega) rfl (by simpa using hr) ?_
  (conv => whnf); refine goP (eqWire_ok r (hs r hm)) ?_
  (conv => whnf)
  refine goW (by omega) (by omega) ?_
  (conv => whnf)
  refine ⟨k + 1, ?_, (by refine ⟨?_, ?_, ?_⟩ <;> repeat' (first | exact trivial | refine ⟨rfl, ?_⟩)), ?_⟩
  · show k + 1 ≤ l.length; omega
  · show l.length - (k + 1) < l.length - k; omega
theorem eqByteSS_ok (l : List (List Int)) (hl : l.length ≤ 1100000) (hs : ∀ e ∈ l, e.length ≤ 1100000) : Pure 122 [(false, [.lst 0 0 22 (l.map byc)]), (false, [.lst 0 0 22 (l.map byc)])] (.pv (bool true)) := by
  have hll : (l.map byc).length = l.length := by simp
  refine fn_of_vc tab_ok mixed Try.call122 Try.func122 rfl [] _ _ (by kernel_rfl) rfl rfl rfl ?_
  (conv => whnf); split <;> rename_i hq
  · simp at hq
  (conv => whnf)
  refine ⟨Nat, fun x => x ≤ l.length, fun x => ⟨[(0, .one (.lst 0 0 22 (l.map byc))), (1, .one (.lst 0 0 22 (l.map byc))), (5, .one (.i .i64 x))], [], [(1, 0)], [], [1]⟩, fun x => l.length - x, 0, fun x => rfl, ?_, (by refine ⟨?_, ?_, ?_⟩ <;> repeat' (first | exact trivial | refine ⟨rfl, ?_⟩)), ?_⟩
  · show 0 ≤ l.length; omega
  rintro k hk
  (conv => whnf); split <;> rename_i h4 <;> simp only [decide_eq_true_eq, decide_eq_false_iff_not] at h4
  case h_2 =>
    (conv => whnf); exact ret1 (by rfl) (by rfl) (by rfl)
  have hlt : k < l.length := by omega
  obtain ⟨hr, hm⟩ := get_map byc l k hlt
  generalize l[k] = r at hr hm
  (conv => whnf)
  refine ⟨[0, 1, 2, 3, 4, 5, 6, 7, 8, 9], [], (by kernel_rfl), ?_⟩
  (conv => whnf)
  refine goIdx (byc r) (by omega) rfl (by simpa using hr) ?_
  (conv => whnf)
  refine goIdx (byc r) (by omega) rfl (by simpa using hr) ?_
  (conv => whnf); refine goP (eqByteS_ok r (hs r hm)) ?_
  (conv => whnf)
  refine goW (by omega) (by omega) ?_
  (conv => whnf)
  refine ⟨k + 1, ?_, (by refine ⟨?_, ?_, ?_⟩ <;> repeat' (first | exact trivial | refine ⟨rfl, ?_⟩)), ?_⟩
  · show k + 1 ≤ l.length; omega
  · show l.length - (k + 1) < l.length - k; omega
end Go.Proofs.Ytpeejmolbmhjjaa.Sx
end

section
namespace Go.Proofs.Ytpeejmolbmhjjaa.Sx
set_option linter.unusedSimpArgs false
set_option linter.unusedVariables false
open Go
set_option maxRecDepth 100000
set_option maxHeartbeats 0
structure Wld where
  ends : List End
  net : List Wire
  now : Int
  told : List (List Int)
  read : List (List Int)
def Wld.c (w : Wld) : List AV := [.lst 0 0 34 (w.ends.map End.c), .lst 0 0 144 (w.net.map Wire.c), .i .i64 w.now, .lst 0 0 22 (w.told.map byc), .lst 0 0 22 (w.read.map byc)]
def Wld.cL (w : Wld) : List AV := [.lst 0 0 68 (w.ends.map End.cL), .lst 0 0 179 (w.net.map Wire.c), .i .i64 w.now, .lst 0 0 22 (w.told.map byc), .lst 0 0 22 (w.read.map byc)]
abbrev Wld.v (w : Wld) : PV := (true, w.c)
instance : Inhabited Wire := ⟨⟨0, false, []⟩⟩
def xat (l : List Wire) (k : Nat) : Wire := l.getD k default
theorem xat_get {l : List Wire} {k : Nat} (h : k < l.length) : (l.map Wire.c)[k]? = some (xat l k).c := by
  simp [List.getElem?_map, xat, List.getD, List.getElem?_eq_getElem h]
theorem xat_mem {l : List Wire} {k : Nat} (h : k < l.length) : xat l k ∈ l := by
  simp [xat, List.getD, List.getElem?_eq_getElem h]
theorem xat_all {l : List Wire} {p : Wire → Prop} : (∀ x ∈ l, p x) ↔ ∀ k, k < l.length → p (xat l k) := by
  constructor
  · intro h k hk; exact h _ (xat_mem hk)
  · intro h x hx
    obtain ⟨k, hk, rfl⟩ := List.getElem_of_mem hx
    have := h k hk
    simpa [xat, List.getD, List.getElem?_eq_getElem hk] using this
def Wire.bad (x : Wire) : Bool := !(inB x.to 0 1) || decide (40 < x.data.length)
theorem badC_ok (x : Wire) : Pure 120 [x.v] (.pv (bool x.bad)) := by
  refine fn_of_vc tab_ok mixed Try.call120 Try.func120 rfl [] _ _ (by kernel_rfl) rfl rfl rfl ?_
  repeat' ((conv => whnf); first
      | (refine goP (in_ok _ _ _) ?_)
      | (split <;> rename_i hq <;> (try simp only [Bool.not_eq_eq_eq_not, Bool.not_true, Bool.not_false, decide_eq_true_eq, decide_eq_false_iff_not, inB_t, inB_f, bytes_len, List.length_map, Bool.and_eq_true, Bool.and_eq_false_iff, and_true] at hq) <;> (try (exfalso; first | omega | (simp_all; done))))
      | (refine goW (by first | omega | (simp; omega)) (by first | omega | (simp; omega)) ?_)
      | (refine ret1 (by rfl) (by rfl) (outB ?_); first | rfl | grind [Wire.bad, bytes_len])
      | (refine ret1 (by rfl) (by rfl) (outI ?_); first | rfl | omega | grind [Wire.bad, bytes_len])
      | (refine ret1 (by rfl) (by rfl) (outB ?_)) | (refine ret1 (by rfl) (by rfl) (outI ?_)))
  all_goals (unfold Wire.bad inB; by_cases a : 0 ≤ x.to <;> by_cases b : x.to ≤ 1 <;> simp_all <;> omega)
theorem index_ok (l : List Wire) (hl : l.length ≤ 1100000) : Fx 154 [(false, [.lst 0 0 144 (l.map Wire.c)]), (false, [.fn 120])] fun v => ∃ n : Int, v = .pv (int n) ∧ (0 ≤ n ↔ ¬ ∀ x ∈ l, x.bad = false) := by
  have hll : (l.map Wire.c).length = l.length := by simp
  refine fn_of_vc tab_ok mixed Try.call154 Try.func154 rfl [] _ _ (by kernel_rfl) rfl rfl rfl ?_
  (conv => whnf)
  refine ⟨Nat, fun x => x ≤ l.length ∧ ∀ j, j < x → (xat l j).bad = false, fun x => ⟨[(0, .one (.lst 0 0 144 (l.map Wire.c))), (1, .one (.fn 120)), (7, .one (.i .i64 (l.map Wire.c).length)), (8, .one (.i .i64 x))], [], [(1, 0)], [], [1]⟩, fun x => l.length - x, 0, fun x => rfl, ?_, (by refine ⟨?_, ?_, ?_⟩ <;> repeat' (first | exact trivial | refine ⟨rfl, ?_⟩)), ?_⟩
  · exact ⟨by omega, fun j hj => by omega⟩
  rintro k ⟨hk, hj⟩
  (conv => whnf); split <;> rename_i h4 <;> simp only [decide_eq_true_eq, decide_eq_false_iff_not] at h4
  case h_2 =>
    (conv => whnf)
    refine retE (by rfl) (by rfl) ⟨-1, rfl, ⟨fun h => by omega, fun h => absurd (xat_all.2 fun j hj2 => hj j (by omega)) h⟩⟩
  have hlt : k < l.length := by omega
  (conv => whnf)
  refine goIdx (xat l k).c (by omega) rfl (by simpa using xat_get hlt) ?_
  (conv => whnf); refine goP (badC_ok (xat l k)) ?_
  (conv => whnf); split <;> rename_i h5
  · (conv => whnf)
    refine retE (by rfl) (by rfl) ⟨k, rfl, ⟨fun _ h => ?_, fun _ => by omega⟩⟩
    rw [h _ (xat_mem hlt)] at h5; cases h5
  (conv => whnf); refine goW (by omega) (by omega) ?_
  (conv => whnf)
  refine ⟨k + 1, ?_, (by refine ⟨?_, ?_, ?_⟩ <;> repeat' (first | exact trivial | refine ⟨rfl, ?_⟩)), ?_⟩
  · refine ⟨by omega, fun j hj2 => ?_⟩
    by_cases hjk : j = k
    · subst hjk; exact h5
    · exact hj j (by omega)
  · show l.length - (k + 1) < l.length - k; omega
theorem contains_ok (l : List Wire) (hl : l.length ≤ 1100000) : Fx 119 [(false, [.lst 0 0 144 (l.map Wire.c)]), (false, [.fn 120])] fun v => ∃ b : Bool, v = .pv (bool b) ∧ (b = false ↔ ∀ x ∈ l, x.bad = false) := by
  refine fn_of_vc tab_ok mixed Try.call119 Try.func119 rfl [] _ _ (by kernel_rfl) rfl rfl rfl ?_
  (conv => whnf); refine goE (index_ok l hl) ?_
  rintro _ ⟨n, rfl, hn⟩
  (conv => whnf)
  refine retE (by rfl) (by rfl) ⟨_, rfl, ?_⟩
  by_cases h : ∀ x ∈ l, x.bad = false
  · have : ¬ 0 ≤ n := fun hh => (hn.1 hh) h
    simp [h, this]; omega
  · have : 0 ≤ n := hn.2 h
    simp only [h, iff_false]; simp [this]
end Go.Proofs.Ytpeejmolbmhjjaa.Sx
end

section
namespace Go.Proofs.Ytpeejmolbmhjjaa.Sx
set_option linter.unusedSimpArgs false
set_option linter.unusedVariables false
open Go
set_option maxRecDepth 100000
set_option maxHeartbeats 0
structure Wld.small (w : Wld) : Prop where
  ends : w.ends.length ≤ 1100000 ∧ ∀ e ∈ w.ends, e.small
  net : w.net.length ≤ 1100000 ∧ ∀ e ∈ w.net, e.data.length ≤ 1100000
  told : w.told.length ≤ 1100000 ∧ ∀ e ∈ w.told, e.length ≤ 1100000
  read : w.read.length ≤ 1100000 ∧ ∀ e ∈ w.read, e.length ≤ 1100000
def Wld.okP (w : Wld) : Prop := w.ends.length = 2 ∧ w.told.length = 2 ∧ w.read.length = 2 ∧ (0 ≤ w.now ∧ w.now ≤ 800000) ∧ w.net.length ≤ 24 ∧ (∀ x ∈ w.net, x.bad = false) ∧ (eat w.ends 0).okP ∧ (eat w.ends 1).okP ∧ (eat w.ends 0).addr ≠ (eat w.ends 1).addr
instance (w : Wld) : Decidable w.okP := by unfold Wld.okP; infer_instance
theorem okP_ends {w : Wld} (h : w.ends.length ≠ 2) : decide w.okP = false := decide_eq_false fun hh => h hh.1
theorem fin_ok {w : Wld} {b : Bool} (h : w.ends.length = 2) (ht : w.told.length = 2) (hr : w.read.length = 2) (hn : 0 ≤ w.now ∧ w.now ≤ 800000) (hl : w.net.length ≤ 24) (hb : ∀ x ∈ w.net, x.bad = false) (hx : b = decide ((eat w.ends 0).okP ∧ (eat w.ends 1).okP ∧ (eat w.ends 0).addr ≠ (eat w.ends 1).addr)) : b = decide w.okP := by
  rw [hx, decide_eq_decide]
  exact ⟨fun ⟨a, c, d⟩ => ⟨h, ht, hr, hn, hl, hb, a, c, d⟩, fun hh => ⟨hh.2.2.2.2.2.2.1, hh.2.2.2.2.2.2.2.1, hh.2.2.2.2.2.2.2.2⟩⟩
theorem bad_split (x : Wire) : x.bad = true ↔ inB x.to 0 1 = false ∨ 40 < x.data.length := by
  unfold Wire.bad; cases inB x.to 0 1 <;> simp
theorem worldOk_ok' (w : Wld) (hs : w.small) : Pure 50 [w.v] (.pv (bool (decide w.okP))) := by
  have k1 : (w.ends.map End.c).length = w.ends.length := by simp
  have k2 : (w.net.map Wire.c).length = w.net.length := by simp
  have k3 : (w.told.map byc).length = w.told.length := by simp
  have k4 : (w.read.map byc).length = w.read.length := by simp
  have hsn := hs.net.1
  refine fn_of_vc tab_ok mixed Try.call50 Try.func50 rfl [] _ _ (by kernel_rfl) rfl rfl rfl ?_
  (conv => whnf); split <;> rename_i q1 <;> simp only [Bool.not_eq_eq_eq_not, Bool.not_true, Bool.not_false, decide_eq_true_eq, decide_eq_false_iff_not] at q1
  · (conv => whnf); refine ret1 (by rfl) (by rfl) (outB (decide_eq_false fun h => ?_).symm); have := h.1; omega
  (conv => whnf); split <;> rename_i q2 <;> simp only [Bool.not_eq_eq_eq_not, Bool.not_true, Bool.not_false, decide_eq_true_eq, decide_eq_false_iff_not] at q2
  · (conv => whnf); refine ret1 (by rfl) (by rfl) (outB (decide_eq_false fun h => ?_).symm); have := h.2.1; omega
  (conv => whnf); split <;> rename_i q3 <;> simp only [Bool.not_eq_eq_eq_not, Bool.not_true, Bool.not_false, decide_eq_true_eq, decide_eq_false_iff_not] at q3
  · (conv => whnf); refine ret1 (by rfl) (by rfl) (outB (decide_eq_false fun h => ?_).symm); have := h.2.2.1; omega
  (conv => whnf); refine goP (l1In_ok _ _ _) ?_
  (conv => whnf); split <;> rename_i q4
  · (conv => whnf); refine ret1 (by rfl) (by rfl) (outB (decide_eq_false fun h => ?_).symm)
    have := h.2.2.2.1; simp [inB] at q4; omega
  have hnow : 0 ≤ w.now ∧ w.now ≤ 800000 := by simpa [inB] using q4
  (conv => whnf); split <;> rename_i q5 <;> simp only [Bool.not_eq_eq_eq_not, Bool.not_true, Bool.not_false, decide_eq_true_eq, decide_eq_false_iff_not] at q5
  · (conv => whnf); refine ret1 (by rfl) (by rfl) (outB (decide_eq_false fun h => ?_).symm); have := h.2.2.2.2.1; omega
  (conv => whnf)
  refine ⟨Nat, fun x => x ≤ w.net.length ∧ ∀ j, j < x → (xat w.net j).bad = false, fun x => ⟨[(1, .one (.ptr 1 0)), (3, .one (.i .i64 x))], [(1, w.c)], [(1, 0)], [1], [1]⟩, fun x => w.net.length - x, 0, fun x => rfl, ?_, (by refine ⟨?_, ?_, ?_⟩ <;> repeat' (first | exact trivial | refine ⟨rfl, ?_⟩)), ?_⟩
  · exact ⟨by omega, fun j hj => by omega⟩
  rintro k ⟨hk, hj⟩
  (conv => whnf); split <;> rename_i h4 <;> simp only [decide_eq_true_eq, decide_eq_false_iff_not] at h4
  case h_1 =>
    have hlt : k < w.net.length := by omega
    have hbs := bad_split (xat w.net k)
    have notok : (xat w.net k).bad = true → false = decide w.okP := fun hb => by
      symm; apply decide_eq_false; intro h
      have := h.2.2.2.2.2.1 _ (xat_mem hlt)
      rw [this] at hb; cases hb
    (conv => whnf); refine goIdx (xat w.net k).c (by omega) rfl (by simpa using xat_get hlt) ?_
    (conv => whnf); refine goP (l1In_ok _ _ _) ?_
    (conv => whnf); split <;> rename_i h5
    · (conv => whnf); refine ret1 (by rfl) (by rfl) (outB (notok (hbs.2 (.inl (by simpa using h5)))))
    (conv => whnf); refine goIdx (xat w.net k).c (by omega) rfl (by simpa using xat_get hlt) ?_
    (conv => whnf); split <;> rename_i h6 <;> simp only [decide_eq_true_eq, decide_eq_false_iff_not, bytes_len] at h6
    · (conv => whnf); refine ret1 (by rfl) (by rfl) (outB (notok (hbs.2 (.inr (by omega)))))
    (conv => whnf); refine goW (by omega) (by omega) ?_
    (conv => whnf)
    refine ⟨k + 1, ?_, (by refine ⟨?_, ?_, ?_⟩ <;> repeat' (first | exact trivial | refine ⟨rfl, ?_⟩)), ?_⟩
    · refine ⟨by omega, fun j hj2 => ?_⟩
      by_cases hjk : j = k
      · subst hjk
        cases hq : (xat w.net j).bad with
        | false => rfl
        | true =>
          rcases hbs.1 hq with h7 | h7
          · rw [h7] at h5; simp at h5
          · omega
      · exact hj j (by omega)
    · show w.net.length - (k + 1) < w.net.length - k; omega
  case h_2 =>
    have hall : ∀ x ∈ w.net, x.bad = false := xat_all.2 fun j hj2 => hj j (by omega)
    have he0 : eat w.ends 0 ∈ w.ends := eat_mem (by omega)
    have he1 : eat w.ends 1 ∈ w.ends := eat_mem (by omega)
    have hfin := fun (b : Bool) hx => @fin_ok w b (by omega) (by omega) (by omega) hnow (by omega) hall hx
    (conv => whnf)
    refine ⟨[0, 1, 2, 3, 4, 5, 6, 7, 8, 9, 10, 11, 12, 13, 14, 15, 16, 17, 18, 19, 20, 21, 22, 23, 24, 25], [(1, [1]), (7, [1]), (14, [1]), (19, [1])], (by kernel_rfl), ?_⟩
    (conv => whnf)
    refine goIdx (eat w.ends 0).c (by omega) rfl (by simpa using eat_get (by omega)) ?_
    (conv => whnf); refine goP (endOk_ok' _ (hs.ends.2 _ he0)) ?_
    by_cases o0 : (eat w.ends 0).okP
    · rw [decide_eq_true o0]
      (conv => whnf); refine goIdx (eat w.ends 1).c (by omega) rfl (by simpa using eat_get (by omega)) ?_
      (conv => whnf); refine goP (endOk_ok' _ (hs.ends.2 _ he1)) ?_
      by_cases o1 : (eat w.ends 1).okP
      · rw [decide_eq_true o1]
        (conv => whnf); refine goIdx (eat w.ends 0).c (by omega) rfl (by simpa using eat_get (by omega)) ?_
        (conv => whnf); refine goIdx (eat w.ends 1).c (by omega) rfl (by simpa using eat_get (by omega)) ?_
        (conv => whnf); refine ret1 (by rfl) (by rfl) (outB (hfin _ ?_))
        simp [o0, o1]
      · rw [decide_eq_false o1]
        (conv => whnf); refine ret1 (by rfl) (by rfl) (outB (hfin _ ?_))
        simp [o1]
    · rw [decide_eq_false o0]
      (conv => whnf); refine ret1 (by rfl) (by rfl) (outB (hfin _ ?_))
      simp [o0]
theorem worldOk_ok (w : Wld) (hs : w.small) : Pure 52 [w.v] (.pv (bool (decide w.okP))) := by
  have k1 : (w.ends.map End.c).length = w.ends.length := by simp
  have k2 : (w.net.map Wire.c).length = w.net.length := by simp
  have k3 : (w.told.map byc).length = w.told.length := by simp
  have k4 : (w.read.map byc).length = w.read.length := by simp
  have hsn := hs.net.1
  refine fn_of_vc tab_ok mixed Try.call52 Try.func52 rfl [] _ _ (by kernel_rfl) rfl rfl rfl ?_
  (conv => whnf)
  refine ⟨[0, 1, 2, 3, 4, 5, 6, 7, 8, 9, 10, 11, 12, 13, 14, 15, 16, 17, 18, 19, 20, 21, 22, 23, 24, 25, 26, 27, 28, 29, 30, 31, 32, 33, 34, 35, 36, 37, 38, 39, 40, 41, 42, 43, 44, 45, 46, 47, 48, 49, 50, 51, 52, 53, 54, 55, 56, 57, 58, 59, 60], [(1, [1]), (6, [1]), (13, [1]), (20, [1]), (25, [1]), (33, [1]), (39, [1]), (45, [1]), (50, [1]), (56, [1])], (by kernel_rfl), ?_⟩
  (conv => whnf)
  split <;> rename_i q1 <;> simp only [Bool.not_eq_eq_eq_not, Bool.not_true, Bool.not_false, decide_eq_true_eq, decide_eq_false_iff_not] at q1
  case h_2 =>
    (conv => whnf); refine ret1 (by rfl) (by rfl) (outB (decide_eq_false fun h => ?_).symm); have := h.1; omega
  have he0 : eat w.ends 0 ∈ w.ends := eat_mem (by omega)
  have he1 : eat w.ends 1 ∈ w.ends := eat_mem (by omega)
  (conv => whnf); refine goIdx (eat w.ends 0).c (by omega) rfl (by simpa using eat_get (by omega)) ?_
  (conv => whnf); refine goP (endOk_ok _ (hs.ends.2 _ he0)) ?_
  by_cases o0 : (eat w.ends 0).okP
  case neg =>
    rw [decide_eq_false o0]
    (conv => whnf); refine ret1 (by rfl) (by rfl) (outB (decide_eq_false fun h => ?_).symm); exact o0 h.2.2.2.2.2.2.1
  rw [decide_eq_true o0]
  (conv => whnf); refine goIdx (eat w.ends 1).c (by omega) rfl (by simpa using eat_get (by omega)) ?_
  (conv => whnf); refine goP (endOk_ok _ (hs.ends.2 _ he1)) ?_
  by_cases o1 : (eat w.ends 1).okP
  case neg =>
    rw [decide_eq_false o1]
    (conv => whnf); refine ret1 (by rfl) (by rfl) (outB (decide_eq_false fun h => ?_).symm); exact o1 h.2.2.2.2.2.2.2.1
  rw [decide_eq_true o1]
  (conv => whnf); refine goIdx (eat w.ends 0).c (by omega) rfl (by simpa using eat_get (by omega)) ?_
  (conv => whnf); refine goIdx (eat w.ends 1).c (by omega) rfl (by simpa using eat_get (by omega)) ?_
  (conv => whnf); split <;> rename_i q2 <;> simp only [Bool.not_eq_eq_eq_not, Bool.not_true, Bool.not_false, decide_eq_true_eq, decide_eq_false_iff_not] at q2
  case h_2 =>
    (conv => whnf); refine ret1 (by rfl) (by rfl) (outB (decide_eq_false fun h => ?_).symm); exact h.2.2.2.2.2.2.2.2 (by omega)
  (conv => whnf); split <;> rename_i q3 <;> simp only [decide_eq_true_eq, decide_eq_false_iff_not] at q3
  case h_2 =>
    (conv => whnf); refine ret1 (by rfl) (by rfl) (outB (decide_eq_false fun h => ?_).symm); have := h.2.2.2.2.1; omega
  (conv => whnf); refine goE (contains_ok w.net hsn) ?_
  rintro _ ⟨b, rfl, hb⟩
  cases b with
  | true =>
    (conv => whnf); refine ret1 (by rfl) (by rfl) (outB (decide_eq_false fun h => ?_).symm)
    have := hb.2 h.2.2.2.2.2.1; cases this
  | false =>
    have hall := hb.1 rfl
    (conv => whnf); refine goP (in_ok _ _ _) ?_
    (conv => whnf); split <;> rename_i q4
    case h_2 =>
      (conv => whnf); refine ret1 (by rfl) (by rfl) (outB (decide_eq_false fun h => ?_).symm)
      have := h.2.2.2.1; simp [inB] at q4; omega
    have hnow : 0 ≤ w.now ∧ w.now ≤ 800000 := by simpa [inB] using q4
    (conv => whnf); split <;> rename_i q5 <;> simp only [decide_eq_true_eq, decide_eq_false_iff_not] at q5
    case h_2 =>
      (conv => whnf); refine ret1 (by rfl) (by rfl) (outB (decide_eq_false fun h => ?_).symm); have := h.2.1; omega
    (conv => whnf); refine ret1 (by rfl) (by rfl) (outB ?_)
    rw [decide_eq_decide]
    exact ⟨fun h => ⟨by omega, by omega, by omega, hnow, by omega, hall, o0, o1, by omega⟩, fun h => by have := h.2.2.1; omega⟩
end Go.Proofs.Ytpeejmolbmhjjaa.Sx
end

section
namespace Go.Proofs.Ytpeejmolbmhjjaa.Sx
set_option linter.unusedSimpArgs false
set_option linter.unusedVariables false
open Go
set_option maxRecDepth 100000
set_option maxHeartbeats 0
structure Wld.fits (w : Wld) : Prop where
  ends : w.ends.length ≤ 9223372036854775807 ∧ ∀ e ∈ w.ends, e.fits
  net : w.net.length ≤ 9223372036854775807 ∧ ∀ e ∈ w.net, e.data.length ≤ 9223372036854775807
  told : w.told.length ≤ 9223372036854775807 ∧ ∀ e ∈ w.told, e.length ≤ 9223372036854775807
  read : w.read.length ≤ 9223372036854775807 ∧ ∀ e ∈ w.read, e.length ≤ 9223372036854775807
theorem szWorld_ok (w : Wld) (left : Int) (h0 : 0 ≤ left ∧ left ≤ 1048576) (hf : w.fits) : Fx 49 [(true, w.cL), int left] (SzR w.small) := by
  refine fn_of_vc tab_ok mixed Try.call49 Try.func49 rfl [] _ _ (by kernel_rfl) rfl rfl rfl ?_
  (conv => whnf); refine goE (szEndS_ok w.ends left h0 hf.ends.1 hf.ends.2) ?_
  rintro _ ⟨n1, rfl, a1, a2, a3⟩
  (conv => whnf); split <;> rename_i hq <;> simp only [decide_eq_true_eq, decide_eq_false_iff_not] at hq
  · (conv => whnf); exact retE (by rfl) (by rfl) ⟨-1, rfl, by omega, by omega, fun h => by omega⟩
  (conv => whnf); refine goE (szWireS_ok w.net n1 (by omega) hf.net.1 hf.net.2) ?_
  rintro _ ⟨n2, rfl, b1, b2, b3⟩
  (conv => whnf); split <;> rename_i hq2 <;> simp only [decide_eq_true_eq, decide_eq_false_iff_not] at hq2
  · (conv => whnf); exact retE (by rfl) (by rfl) ⟨-1, rfl, by omega, by omega, fun h => by omega⟩
  (conv => whnf); refine goE (szByteSS_ok w.told n2 (by omega) hf.told.1 hf.told.2) ?_
  rintro _ ⟨n3, rfl, c1, c2, c3⟩
  (conv => whnf); split <;> rename_i hq3 <;> simp only [decide_eq_true_eq, decide_eq_false_iff_not] at hq3
  · (conv => whnf); exact retE (by rfl) (by rfl) ⟨-1, rfl, by omega, by omega, fun h => by omega⟩
  (conv => whnf); refine goE (szByteSS_ok w.read n3 (by omega) hf.read.1 hf.read.2) ?_
  rintro _ ⟨n4, rfl, d1, d2, d3⟩
  (conv => whnf); split <;> rename_i hq4 <;> simp only [decide_eq_true_eq, decide_eq_false_iff_not] at hq4
  · (conv => whnf); exact retE (by rfl) (by rfl) ⟨-1, rfl, by omega, by omega, fun h => by omega⟩
  (conv => whnf)
  obtain ⟨a4, a5⟩ := a3 (by omega)
  obtain ⟨b4, b5⟩ := b3 (by omega)
  obtain ⟨c4, c5⟩ := c3 (by omega)
  refine retE (by rfl) (by rfl) ⟨n4, rfl, by omega, by omega, fun h => ?_⟩
  obtain ⟨d4, d5⟩ := d3 (by omega)
  exact ⟨⟨by omega, a5⟩, ⟨by omega, b5⟩, ⟨by omega, c5⟩, ⟨by omega, d5⟩⟩
theorem toWorld_ok (w : Wld) (hs : w.small) : Pure 51 [(true, w.cL)] (.pv w.v) := by
  refine fn_of_vc tab_ok mixed Try.call51 Try.func51 rfl [] _ _ (by kernel_rfl) rfl rfl rfl ?_
  (conv => whnf); refine goP (toEndS_ok w.ends hs.ends.1 hs.ends.2) ?_
  (conv => whnf); refine goP (toWireS_ok w.net hs.net.1 hs.net.2) ?_
  (conv => whnf); refine goP (toByteSS_ok w.told hs.told.1 hs.told.2) ?_
  (conv => whnf); refine goP (toByteSS_ok w.read hs.read.1 hs.read.2) ?_
  (conv => whnf); exact ret1 (by rfl) (by rfl) (by rfl)
theorem eqWorld_ok (w : Wld) (hs : w.small) : Pure 53 [w.v, w.v] (.pv (bool true)) := by
  refine fn_of_vc tab_ok mixed Try.call53 Try.func53 rfl [] _ _ (by kernel_rfl) rfl rfl rfl ?_
  (conv => whnf); refine goP (eqEndS_ok w.ends hs.ends.1 hs.ends.2) ?_
  (conv => whnf); refine goP (eqWireS_ok w.net hs.net.1 hs.net.2) ?_
  (conv => whnf); split <;> rename_i hq
  · simp at hq
  (conv => whnf); refine goP (eqByteSS_ok w.told hs.told.1 hs.told.2) ?_
  (conv => whnf); refine goP (eqByteSS_ok w.read hs.read.1 hs.read.2) ?_
  (conv => whnf); exact ret1 (by rfl) (by rfl) (by rfl)
theorem law13 (w : Wld) (hf : w.fits) : Pure 13 [(true, w.cL)] (.pv (bool true)) := by
  refine fn_of_vc tab_ok mixed Try.call13 Try.func13 rfl [] _ _ (by kernel_rfl) rfl rfl rfl ?_
  (conv => whnf); refine goE (szWorld_ok w 1048576 (by omega) hf) ?_
  rintro _ ⟨n, rfl, n1, n2, n3⟩
  (conv => whnf); split <;> rename_i hq <;> simp only [decide_eq_true_eq, decide_eq_false_iff_not] at hq
  · (conv => whnf); exact ret1 (by rfl) (by rfl) (by rfl)
  have hs : w.small := n3 (by omega)
  (conv => whnf); refine goP (toWorld_ok w hs) ?_
  (conv => whnf); refine goP (worldOk_ok' w hs) ?_
  (conv => whnf); refine goP (toWorld_ok w hs) ?_
  (conv => whnf); refine goP (worldOk_ok w hs) ?_
  (conv => whnf); split <;> rename_i hq2
  · simp at hq2
  (conv => whnf)
  refine ⟨[0, 1, 2, 3, 4], [(0, [5]), (1, [1])], (by kernel_rfl), ?_⟩
  (conv => whnf)
  refine goP (toWorld_ok w hs) ?_
  (conv => whnf); refine goP (eqWorld_ok w hs) ?_
  (conv => whnf); exact ret1 (by rfl) (by rfl) (by rfl)
end Go.Proofs.Ytpeejmolbmhjjaa.Sx
end

section
namespace Go.Proofs.Ytpeejmolbmhjjaa.Sx
set_option linter.unusedSimpArgs false
set_option linter.unusedVariables false
open Go Go.RowKit Go.ChangeShapes Go.WideShapes Go.ChangeAt Go.Deep
set_option maxRecDepth 100000
theorem o76 {c : Bool} : Op Try.prog c 76 (isLst 68 isEnd) := op_slice (sz := 23) Try.underlying76 (by kernel_rfl) o68
theorem o89 {c : Bool} : Op Try.prog c 89 (isLst 72 (isTwo (isInt .i64) (isInt .i64))) := op_slice (sz := 1) Try.underlying89 (by kernel_rfl) o72
def isWire : List AV → Prop := isTwo (isInt .i64) (isTwo isBool (isLst 5 (isInt .u8)))
theorem o179 {c : Bool} : Op Try.prog c 179 isWire := op_struct Try.underlying179 (opF_cons (sz := 1) o3 rfl (by kernel_rfl) (opF_cons (sz := 1) o4 rfl (by kernel_rfl) (opF_one (sz := 1) o22 rfl (by kernel_rfl)))) (by kernel_rfl)
theorem o77 {c : Bool} : Op Try.prog c 77 (isLst 179 isWire) := op_slice (sz := 2) Try.underlying77 (by kernel_rfl) o179
theorem o78 {c : Bool} : Op Try.prog c 78 (isLst 22 (isLst 5 (isInt .u8))) := op_slice (sz := 0) Try.underlying78 (by kernel_rfl) o22
def isWld : List AV → Prop := isTwo (isLst 68 isEnd) (isTwo (isLst 179 isWire) (isTwo (isInt .i64) (isTwo (isLst 22 (isLst 5 (isInt .u8))) (isLst 22 (isLst 5 (isInt .u8))))))
theorem o80 {c : Bool} : Op Try.prog c 80 isWld :=
  op_struct Try.underlying80 (opF_cons (sz := 1) o76 rfl (by kernel_rfl) (opF_cons (sz := 1) o77 rfl (by kernel_rfl) (opF_cons (sz := 1) o3 rfl (by kernel_rfl) (opF_cons (sz := 1) o78 rfl (by kernel_rfl) (opF_one (sz := 1) o78 rfl (by kernel_rfl)))))) (by kernel_rfl)
theorem ends_of {av : List AV} (h : isLst 68 isEnd av) : ∃ l : List End, av = [.lst 0 0 68 (l.map End.cL)] ∧ l.length ≤ 9223372036854775807 ∧ ∀ e ∈ l, e.fits := by
  obtain ⟨es, rfl, hl, hq⟩ := h
  obtain ⟨l, rfl, hf⟩ := list_of (f := End.cL) (W := End.fits) (fun xs h => end_of h) es hq
  rw [List.length_map] at hl
  unfold maxLen at hl
  exact ⟨l, rfl, by omega, hf⟩
theorem watches_of {av : List AV} (h : isLst 72 (isTwo (isInt .i64) (isInt .i64)) av) : ∃ l : List Watch, av = [.lst 0 0 72 (l.map Watch.c)] ∧ l.length ≤ 9223372036854775807 := by
  obtain ⟨es, rfl, hl, hq⟩ := h
  obtain ⟨l, rfl, hf⟩ := list_of (f := Watch.c) (W := fun _ => True) (fun xs h => by obtain ⟨e, rfl⟩ := watch_of h; exact ⟨e, rfl, trivial⟩) es hq
  rw [List.length_map] at hl
  unfold maxLen at hl
  exact ⟨l, rfl, by omega⟩
theorem wires_of {av : List AV} (h : isLst 179 isWire av) : ∃ l : List Wire, av = [.lst 0 0 179 (l.map Wire.c)] ∧ l.length ≤ 9223372036854775807 ∧ ∀ e ∈ l, e.data.length ≤ 9223372036854775807 := by
  obtain ⟨es, rfl, hl, hq⟩ := h
  obtain ⟨l, rfl, hf⟩ := list_of (f := Wire.c) (W := fun e : Wire => e.data.length ≤ 9223372036854775807) (fun xs h => by
    obtain ⟨_, _, rfl, ⟨a, rfl, _⟩, _, _, rfl, ⟨b, rfl⟩, hd⟩ := h
    obtain ⟨d, rfl, hd2⟩ := bytes_of hd
    exact ⟨⟨a, b, d⟩, rfl, hd2⟩) es hq
  rw [List.length_map] at hl
  unfold maxLen at hl
  exact ⟨l, rfl, by omega, hf⟩
theorem lists_of {av : List AV} (h : isLst 22 (isLst 5 (isInt .u8)) av) : ∃ l : List (List Int), av = [.lst 0 0 22 (l.map byc)] ∧ l.length ≤ 9223372036854775807 ∧ ∀ e ∈ l, e.length ≤ 9223372036854775807 := by
  obtain ⟨es, rfl, hl, hq⟩ := h
  obtain ⟨l, rfl, hf⟩ := list_of (f := byc) (W := fun e : List Int => e.length ≤ 9223372036854775807) (fun xs h => by
    obtain ⟨d, rfl, hd2⟩ := bytes_of h
    exact ⟨d, rfl, hd2⟩) es hq
  rw [List.length_map] at hl
  unfold maxLen at hl
  exact ⟨l, rfl, by omega, hf⟩
theorem world_of {av : List AV} (h : isWld av) : ∃ w : Wld, av = w.cL ∧ w.fits := by
  obtain ⟨_, _, rfl, h1, _, _, rfl, h2, _, _, rfl, ⟨n, rfl, _⟩, _, _, rfl, h3, h4⟩ := h
  obtain ⟨a, rfl, a1, a2⟩ := ends_of h1
  obtain ⟨b, rfl, b1, b2⟩ := wires_of h2
  obtain ⟨c, rfl, c1, c2⟩ := lists_of h3
  obtain ⟨d, rfl, d1, d2⟩ := lists_of h4
  exact ⟨⟨a, b, n, c, d⟩, rfl, ⟨⟨a1, a2⟩, ⟨b1, b2⟩, ⟨c1, c2⟩, ⟨d1, d2⟩⟩⟩
end Go.Proofs.Ytpeejmolbmhjjaa.Sx
end
