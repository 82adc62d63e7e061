/- Texts of the claim, in few files: what the functions of the program come to; there is no condition beyond those each statement names. -/
import Derived.Test.YtpeejmolbmhjjaaBWA0
section
namespace Go.Proofs.Ytpeejmolbmhjjaa.Sx
set_option linter.unusedSimpArgs false
set_option linter.unusedVariables false
open Go
set_option maxRecDepth 100000
set_option maxHeartbeats 0
structure Wire where
  to : Int
  bent : Bool
  data : List Int
def Wire.c (w : Wire) : List AV := [.i .i64 w.to, .b w.bent, .lst 0 0 5 (bytes w.data)]
abbrev Wire.v (w : Wire) : PV := (true, w.c)
/-- A list of bytes as an element. -/
def byc (l : List Int) : List AV := [.lst 0 0 5 (bytes l)]
theorem alignL_strip : ∀ xs : List AV, alignL xs (xs.map AV.strip) = xs.map AV.strip
  | [] => rfl
  | x :: xs => by
    simp only [List.map_cons, alignL]
    rw [alignL_strip xs]
    congr 1
    cases x with
    | lst t v e es => rfl
    | _ => rfl
theorem rep0_map (f : AV → AV) (z : List AV) : ∀ n, (rep0 z n).map f = rep0 (z.map f) n
  | 0 => rfl
  | n + 1 => by simp [rep0, rep0_map f z n]
theorem rep0_align (z : List AV) (n : Nat) : alignL (rep0 z n) (rep0 (z.map AV.strip) n) = rep0 (z.map AV.strip) n := by
  rw [← rep0_map]; exact alignL_strip _
theorem flat_of {xs : List AV} (h : xs.all (fun x => match x with | .lst 0 0 _ _ => true | .i _ _ => true | .b _ => true | _ => false) = true) : flat xs := by
  intro x hx
  have := List.all_eq_true.1 h x hx
  split at this
  · exact ⟨rfl, rfl, fun _ _ => rfl⟩
  · exact ⟨rfl, rfl, fun _ _ => rfl⟩
  · exact ⟨rfl, rfl, fun _ _ => rfl⟩
  · cases this
theorem get_map {α : Type} (f : α → List AV) (l : List α) (k : Nat) (hk : k < l.length) : (l.map f)[k]? = some (f l[k]) ∧ l[k] ∈ l := ⟨by simp [List.getElem?_map, List.getElem?_eq_getElem hk], List.getElem_mem hk⟩
theorem toWire_ok (r : Wire) (h : r.data.length ≤ 1100000) : Pure 153 [r.v] (.pv r.v) := by
  refine fn_of_vc tab_ok mixed Try.call153 Try.func153 rfl [] _ _ (by kernel_rfl) rfl rfl rfl ?_
  (conv => whnf); refine goP (toByteS_ok r.data h) ?_
  (conv => whnf); exact ret1 (by rfl) (by rfl) (by rfl)
theorem eqWire_ok (r : Wire) (h : r.data.length ≤ 1100000) : Pure 155 [r.v, r.v] (.pv (bool true)) := by
  refine fn_of_vc tab_ok mixed Try.call155 Try.func155 rfl [] _ _ (by kernel_rfl) rfl rfl rfl ?_
  repeat' ((conv => whnf); first
      | (refine goP (eqByteS_ok r.data h) ?_)
      | (split <;> rename_i hq <;> (try simp only [Bool.not_eq_eq_eq_not, Bool.not_true, Bool.not_false, decide_eq_true_eq, decide_eq_false_iff_not, inB_t, inB_f, bytes_len, List.length_map, Bool.and_eq_true, Bool.and_eq_false_iff, and_true] at hq) <;> (try (exfalso; first | omega | (simp_all; done))))
      | (refine goW (by first | omega | (simp; omega)) (by first | omega | (simp; omega)) ?_)
      | (refine ret1 (by rfl) (by rfl) (outB ?_); first | rfl | grind [inB])
      | (refine ret1 (by rfl) (by rfl) (outI ?_); first | rfl | omega | grind [inB])
      | (refine ret1 (by rfl) (by rfl) (outB ?_)) | (refine ret1 (by rfl) (by rfl) (outI ?_)))
theorem toWatchS_ok (l : List (Watch)) (hl : l.length ≤ 1100000)  : Pure 56 [(false, [.lst 0 0 72 (l.map Watch.c)])] (.pv (false, [.lst 0 0 24 (l.map Watch.c)])) := by
  have hb : ∀ xs ∈ l.map Watch.c, xs.length = ([AV.i .i64 0, .i .i64 0]).length ∧ flat xs := by
    intro xs hx
    obtain ⟨r, _, rfl⟩ := List.mem_map.1 hx
    exact ⟨rfl, flat_of rfl⟩
  have hb1 : ∀ xs ∈ l.map Watch.c, xs.length = ([AV.i .i64 0, .i .i64 0]).length := fun xs hx => (hb xs hx).1
  have hb2 : ∀ xs ∈ l.map Watch.c, flat xs := fun xs hx => (hb xs hx).2
  have hz : flat [AV.i .i64 0, .i .i64 0] := flat_of rfl
  have hbl : (l.map Watch.c).length = l.length := by simp
  have hbl1 : (l.map Watch.c).length = l.length := by simp
  refine fn_of_vc tab_ok mixed Try.call56 Try.func56 rfl [] _ _ (by kernel_rfl) rfl rfl rfl ?_
  (conv => whnf)
  refine ⟨rfl, ?_, ?_, ?_, ?_⟩
  · omega
  · show ((l.map Watch.c).length : Int) * 16 ≤ _; omega
  · show ((l.map Watch.c).length : Int) ≤ _; omega
  rw [show (l.map Watch.c).length = (l.map Watch.c).length by simp]
  (conv => whnf)
  rw [forceL_eq]
  (conv => whnf)
  refine ⟨Nat, fun x => x ≤ l.length, fun x => ⟨[(0, .one (.lst 0 0 72 (l.map Watch.c))), (3, .one (.row 7 (l.map Watch.c).length 24)), (4, .one (.i .i64 x))], [(7, mix [AV.i .i64 0, .i .i64 0] (l.map Watch.c).length (l.map Watch.c) x)], [(1, 0)], [7], [1]⟩, fun x => l.length - x, 0, fun x => ?_, ?_, ⟨(by repeat' (first | exact trivial | refine ⟨rfl, ?_⟩)), ⟨?_, (by repeat' (first | exact trivial | refine ⟨rfl, ?_⟩))⟩, (by repeat' (first | exact trivial | refine ⟨rfl, ?_⟩))⟩, ?_⟩
  · exact pat_row rfl (mix_pat hb2 hz) rfl
  · show 0 ≤ l.length; omega
  · show alignL (rep0 [AV.i .i64 0, .i .i64 0] (l.map Watch.c).length) _ = _
    rw [mix_zero]; exact rep0_align [AV.i .i64 0, .i .i64 0] _
  rintro k hk
  (conv => whnf); split <;> rename_i h4 <;> simp only [decide_eq_true_eq, decide_eq_false_iff_not] at h4
  case h_2 =>
    (conv => whnf)
    have hke : k = (l.map Watch.c).length := by omega
    subst hke
    refine retRow (by rfl) (by rfl) (by rfl) (by rfl) (by rfl) (by rfl) ?_ ?_ ?_
    · exact mix_len hb1 rfl (Nat.le_refl _)
    · rw [stripV_self (mix_mem (fun xs hx x hy => (hb2 xs hx x hy).1) fun x hx => (hz x hx).1)]
      exact mix_mem (fun xs hx x hy => (hb2 xs hx x hy).2.1) fun x hx => (hz x hx).2.1
    · show _ = _
      rw [stripV_self (mix_mem (fun xs hx x hy => (hb2 xs hx x hy).1) fun x hx => (hz x hx).1), mix_all rfl]
      show ({ res := .pv (false, [.lst 0 0 24 (chunks 2 (l.map Watch.c).length (l.map Watch.c).flatten)]) } : Out) = _
      have h := chunks_flatten hb1; simp only [List.length_cons, List.length_nil] at h; rw [h]
  have hlt : k < l.length := by omega
  obtain ⟨hr1, hm⟩ := get_map Watch.c l k hlt
  obtain ⟨hr, _⟩ := get_map Watch.c l k hlt
  generalize l[k] = r at hr1 hr hm
  (conv => whnf)
  refine goIdx (Watch.c r) (by omega) rfl (by simpa using hr1) ?_
  (conv => whnf); refine goP (toWatch_ok r) ?_
  (conv => whnf)
  refine ⟨⟨by omega, by omega⟩, ?_⟩
  (conv => whnf)
  refine goIf ?_ ?_
  · show (true && Nat.ble (k * 2 + 2) (mix [AV.i .i64 0, .i .i64 0] (l.map Watch.c).length (l.map Watch.c) k).length && true) = true
    rw [mix_len hb1 rfl (by omega)]; simp; omega
  (conv => whnf)
  rw [forceL_eq]
  (conv => whnf)
  refine goW (by omega) (by omega) ?_
  (conv => whnf)
  refine ⟨k + 1, ?_, ⟨(by repeat' (first | exact trivial | refine ⟨rfl, ?_⟩)), ⟨?_, (by repeat' (first | exact trivial | refine ⟨rfl, ?_⟩))⟩, (by repeat' (first | exact trivial | refine ⟨rfl, ?_⟩))⟩, ?_⟩
  · show k + 1 ≤ l.length; omega
  · show alignL (lay (mix [AV.i .i64 0, .i .i64 0] (l.map Watch.c).length (l.map Watch.c) k) (k * 2) (Watch.c r)) _ = _
    rw [show lay (mix [AV.i .i64 0, .i .i64 0] (l.map Watch.c).length (l.map Watch.c) k) (k * 2) (Watch.c r) = _ from mix_lay hb1 rfl hr]; exact mix_align hb2 hz
  · show l.length - (k + 1) < l.length - k; omega
theorem toEndS_ok (l : List (End)) (hl : l.length ≤ 1100000) (hs : ∀ e ∈ l, e.small) : Pure 57 [(false, [.lst 0 0 68 (l.map End.cL)])] (.pv (false, [.lst 0 0 34 (l.map End.c)])) := by
  have hb : ∀ xs ∈ l.map End.c, xs.length = ([AV.i .i64 0, .i .i64 0, .i .i64 0, .i .i64 0, .i .i64 0, .i .i64 0, .i .i64 0, .lst 0 0 5 [], .i .i64 0, .i .i64 0, .lst 0 0 108 [], .i .i64 0, .i .i64 0, .lst 0 0 5 [], .lst 0 0 138 [], .b false, .b false, .b false, .i .i64 0, .i .i64 0, .i .i64 0, .i .i64 0, .i .i64 0, .i .i64 0]).length ∧ flat xs := by
    intro xs hx
    obtain ⟨r, _, rfl⟩ := List.mem_map.1 hx
    exact ⟨rfl, flat_of rfl⟩
  have hb1 : ∀ xs ∈ l.map End.c, xs.length = ([AV.i .i64 0, .i .i64 0, .i .i64 0, .i .i64 0, .i .i64 0, .i .i64 0, .i .i64 0, .lst 0 0 5 [], .i .i64 0, .i .i64 0, .lst 0 0 108 [], .i .i64 0, .i .i64 0, .lst 0 0 5 [], .lst 0 0 138 [], .b false, .b false, .b false, .i .i64 0, .i .i64 0, .i .i64 0, .i .i64 0, .i .i64 0, .i .i64 0]).length := fun xs hx => (hb xs hx).1
  have hb2 : ∀ xs ∈ l.map End.c, flat xs := fun xs hx => (hb xs hx).2
  have hz : flat [AV.i .i64 0, .i .i64 0, .i .i64 0, .i .i64 0, .i .i64 0, .i .i64 0, .i .i64 0, .lst 0 0 5 [], .i .i64 0, .i .i64 0, .lst 0 0 108 [], .i .i64 0, .i .i64 0, .lst 0 0 5 [], .lst 0 0 138 [], .b false, .b false, .b false, .i .i64 0, .i .i64 0, .i .i64 0, .i .i64 0, .i .i64 0, .i .i64 0] := flat_of rfl
  have hbl : (l.map End.c).length = l.length := by simp
  have hbl1 : (l.map End.cL).length = l.length := by simp
  refine fn_of_vc tab_ok mixed Try.call57 Try.func57 rfl [] _ _ (by kernel_rfl) rfl rfl rfl ?_
  (conv => whnf)
  refine ⟨rfl, ?_, ?_, ?_, ?_⟩
  · omega
  · show ((l.map End.cL).length : Int) * 240 ≤ _; omega
  · show ((l.map End.cL).length : Int) ≤ _; omega
  rw [show (l.map End.cL).length = (l.map End.c).length by simp]
  (conv => whnf)
  rw [forceL_eq]
  (conv => whnf)
  refine ⟨Nat, fun x => x ≤ l.length, fun x => ⟨[(0, .one (.lst 0 0 68 (l.map End.cL))), (3, .one (.row 7 (l.map End.c).length 34)), (4, .one (.i .i64 x))], [(7, mix [AV.i .i64 0, .i .i64 0, .i .i64 0, .i .i64 0, .i .i64 0, .i .i64 0, .i .i64 0, .lst 0 0 5 [], .i .i64 0, .i .i64 0, .lst 0 0 108 [], .i .i64 0, .i .i64 0, .lst 0 0 5 [], .lst 0 0 138 [], .b false, .b false, .b false, .i .i64 0, .i .i64 0, .i .i64 0, .i .i64 0, .i .i64 0, .i .i64 0] (l.map End.c).length (l.map End.c) x)], [(1, 0)], [7], [1]⟩, fun x => l.length - x, 0, fun x => ?_, ?_, ⟨(by repeat' (first | exact trivial | refine ⟨rfl, ?_⟩)), ⟨?_, (by repeat' (first | exact trivial | refine ⟨rfl, ?_⟩))⟩, (by repeat' (first | exact trivial | refine ⟨rfl, ?_⟩))⟩, ?_⟩
  · exact pat_row rfl (mix_pat hb2 hz) rfl
  · show 0 ≤ l.length; omega
  · show alignL (rep0 [AV.i .i64 0, .i .i64 0, .i .i64 0, .i .i64 0, .i .i64 0, .i .i64 0, .i .i64 0, .lst 1 0 5 [], .i .i64 0, .i .i64 0, .lst 1 0 108 [], .i .i64 0, .i .i64 0, .lst 1 0 5 [], .lst 1 0 138 [], .b false, .b false, .b false, .i .i64 0, .i .i64 0, .i .i64 0, .i .i64 0, .i .i64 0, .i .i64 0] (l.map End.c).length) _ = _
    rw [mix_zero]; exact rep0_align [AV.i .i64 0, .i .i64 0, .i .i64 0, .i .i64 0, .i .i64 0, .i .i64 0, .i .i64 0, .lst 1 0 5 [], .i .i64 0, .i .i64 0, .lst 1 0 108 [], .i .i64 0, .i .i64 0, .lst 1 0 5 [], .lst 1 0 138 [], .b false, .b false, .b false, .i .i64 0, .i .i64 0, .i .i64 0, .i .i64 0, .i .i64 0, .i .i64 0] _
  rintro k hk
  (conv => whnf); split <;> rename_i h4 <;> simp only [decide_eq_true_eq, decide_eq_false_iff_not] at h4
  case h_2 =>
    (conv => whnf)
    have hke : k = (l.map End.c).length := by omega
    subst hke
    refine retRow (by rfl) (by rfl) (by rfl) (by rfl) (by rfl) (by rfl) ?_ ?_ ?_
    · exact mix_len hb1 rfl (Nat.le_refl _)
    · rw [stripV_self (mix_mem (fun xs hx x hy => (hb2 xs hx x hy).1) fun x hx => (hz x hx).1)]
      exact mix_mem (fun xs hx x hy => (hb2 xs hx x hy).2.1) fun x hx => (hz x hx).2.1
    · show _ = _
      rw [stripV_self (mix_mem (fun xs hx x hy => (hb2 xs hx x hy).1) fun x hx => (hz x hx).1), mix_all rfl]
      show ({ res := .pv (false, [.lst 0 0 34 (chunks 24 (l.map End.c).length (l.map End.c).flatten)]) } : Out) = _
      have h := chunks_flatten hb1; simp only [List.length_cons, List.length_nil] at h; rw [h]
  have hlt : k < l.length := by omega
  obtain ⟨hr1, hm⟩ := get_map End.cL l k hlt
  obtain ⟨hr, _⟩ := get_map End.c l k hlt
  generalize l[k] = r at hr1 hr hm
  (conv => whnf)
  refine goIdx (End.cL r) (by omega) rfl (by simpa using hr1) ?_
  (conv => whnf); refine goP (toEnd_ok r (hs r hm)) ?_
  (conv => whnf)
  refine ⟨⟨by omega, by omega⟩, ?_⟩
  (conv => whnf)
  refine goIf ?_ ?_
  · show (true && Nat.ble (k * 24 + 24) (mix [AV.i .i64 0, .i .i64 0, .i .i64 0, .i .i64 0, .i .i64 0, .i .i64 0, .i .i64 0, .lst 0 0 5 [], .i .i64 0, .i .i64 0, .lst 0 0 108 [], .i .i64 0, .i .i64 0, .lst 0 0 5 [], .lst 0 0 138 [], .b false, .b false, .b false, .i .i64 0, .i .i64 0, .i .i64 0, .i .i64 0, .i .i64 0, .i .i64 0] (l.map End.c).length (l.map End.c) k).length && true) = true
    rw [mix_len hb1 rfl (by omega)]; simp; omega
  (conv => whnf)
  rw [forceL_eq]
  (conv => whnf)
  refine goW (by omega) (by omega) ?_
  (conv => whnf)
  refine ⟨k + 1, ?_, ⟨(by repeat' (first | exact trivial | refine ⟨rfl, ?_⟩)), ⟨?_, (by repeat' (first | exact trivial | refine ⟨rfl, ?_⟩))⟩, (by repeat' (first | exact trivial | refine ⟨rfl, ?_⟩))⟩, ?_⟩
  · show k + 1 ≤ l.length; omega
  · show alignL (lay (mix [AV.i .i64 0, .i .i64 0, .i .i64 0, .i .i64 0, .i .i64 0, .i .i64 0, .i .i64 0, .lst 0 0 5 [], .i .i64 0, .i .i64 0, .lst 0 0 108 [], .i .i64 0, .i .i64 0, .lst 0 0 5 [], .lst 0 0 138 [], .b false, .b false, .b false, .i .i64 0, .i .i64 0, .i .i64 0, .i .i64 0, .i .i64 0, .i .i64 0] (l.map End.c).length (l.map End.c) k) (k * 24) (End.c r)) _ = _
    rw [show lay (mix [AV.i .i64 0, .i .i64 0, .i .i64 0, .i .i64 0, .i .i64 0, .i .i64 0, .i .i64 0, .lst 0 0 5 [], .i .i64 0, .i .i64 0, .lst 0 0 108 [], .i .i64 0, .i .i64 0, .lst 0 0 5 [], .lst 0 0 138 [], .b false, .b false, .b false, .i .i64 0, .i .i64 0, .i .i64 0, .i .i64 0, .i .i64 0, .i .i64 0] (l.map End.c).length (l.map End.c) k) (k * 24) (End.c r) = _ from mix_lay hb1 rfl hr]; exact mix_align hb2 hz
  · show l.length - (k + 1) < l.length - k; omega
theorem toWireS_ok (l : List (Wire)) (hl : l.length ≤ 1100000) (hs : ∀ e ∈ l, e.data.length ≤ 1100000) : Pure 117 [(false, [.lst 0 0 179 (l.map Wire.c)])] (.pv (false, [.lst 0 0 144 (l.map Wire.c)])) := by
  have hb : ∀ xs ∈ l.map Wire.c, xs.length = ([AV.i .i64 0, .b false, .lst 0 0 5 []]).length ∧ flat xs := by
    intro xs hx
    obtain ⟨r, _, rfl⟩ := List.mem_map.1 hx
    exact ⟨rfl, flat_of rfl⟩
  have hb1 : ∀ xs ∈ l.map Wire.c, xs.length = ([AV.i .i64 0, .b false, .lst 0 0 5 []]).length := fun xs hx => (hb xs hx).1
  have hb2 : ∀ xs ∈ l.map Wire.c, flat xs := fun xs hx => (hb xs hx).2
  have hz : flat [AV.i .i64 0, .b false, .lst 0 0 5 []] := flat_of rfl
  have hbl : (l.map Wire.c).length = l.length := by simp
  have hbl1 : (l.map Wire.c).length = l.length := by simp
  refine fn_of_vc tab_ok mixed Try.call117 Try.func117 rfl [] _ _ (by kernel_rfl) rfl rfl rfl ?_
  (conv => whnf)
  refine ⟨rfl, ?_, ?_, ?_, ?_⟩
  · omega
  · show ((l.map Wire.c).length : Int) * 40 ≤ _; omega
  · show ((l.map Wire.c).length : Int) ≤ _; omega
  rw [show (l.map Wire.c).length = (l.map Wire.c).length by simp]
  (conv => whnf)
  rw [forceL_eq]
  (conv => whnf)
  refine ⟨Nat, fun x => x ≤ l.length, fun x => ⟨[(0, .one (.lst 0 0 179 (l.map Wire.c))), (3, .one (.row 7 (l.map Wire.c).length 144)), (4, .one (.i .i64 x))], [(7, mix [AV.i .i64 0, .b false, .lst 0 0 5 []] (l.map Wire.c).length (l.map Wire.c) x)], [(1, 0)], [7], [1]⟩, fun x => l.length - x, 0, fun x => ?_, ?_, ⟨(by repeat' (first | exact trivial | refine ⟨rfl, ?_⟩)), ⟨?_, (by repeat' (first | exact trivial | refine ⟨rfl, ?_⟩))⟩, (by repeat' (first | exact trivial | refine ⟨rfl, ?_⟩))⟩, ?_⟩
  · exact pat_row rfl (mix_pat hb2 hz) rfl
  · show 0 ≤ l.length; omega
  · show alignL (rep0 [AV.i .i64 0, .b false, .lst 1 0 5 []] (l.map Wire.c).length) _ = _
    rw [mix_zero]; exact rep0_align [AV.i .i64 0, .b false, .lst 1 0 5 []] _
  rintro k hk
  (conv => whnf); split <;> rename_i h4 <;> simp only [decide_eq_true_eq, decide_eq_false_iff_not] at h4
  case h_2 =>
    (conv => whnf)
    have hke : k = (l.map Wire.c).length := by omega
    subst hke
    refine retRow (by rfl) (by rfl) (by rfl) (by rfl) (by rfl) (by rfl) ?_ ?_ ?_
    · exact mix_len hb1 rfl (Nat.le_refl _)
    · rw [stripV_self (mix_mem (fun xs hx x hy => (hb2 xs hx x hy).1) fun x hx => (hz x hx).1)]
      exact mix_mem (fun xs hx x hy => (hb2 xs hx x hy).2.1) fun x hx => (hz x hx).2.1
    · show _ = _
      rw [stripV_self (mix_mem (fun xs hx x hy => (hb2 xs hx x hy).1) fun x hx => (hz x hx).1), mix_all rfl]
      show ({ res := .pv (false, [.lst 0 0 144 (chunks 3 (l.map Wire.c).length (l.map Wire.c).flatten)]) } : Out) = _
      have h := chunks_flatten hb1; simp only [List.length_cons, List.length_nil] at h; rw [h]
  have hlt : k < l.length := by omega
  obtain ⟨hr1, hm⟩ := get_map Wire.c l k hlt
  obtain ⟨hr, _⟩ := get_map Wire.c l k hlt
  generalize l[k] = r at hr1 hr hm
  (conv => whnf)
  refine goIdx (Wire.c r) (by omega) rfl (by simpa using hr1) ?_
  (conv => whnf); refine goP (toWire_ok r (hs r hm)) ?_
  (conv => whnf)
  refine ⟨⟨by omega, by omega⟩, ?_⟩
  (conv => whnf)
  refine goIf ?_ ?_
  · show (true && Nat.ble (k * 3 + 3) (mix [AV.i .i64 0, .b false, .lst 0 0 5 []] (l.map Wire.c).length (l.map Wire.c) k).length && true) = true
    rw [mix_len hb1 rfl (by omega)]; simp; omega
  (conv => whnf)
  rw [forceL_eq]
  (conv => whnf)
  refine goW (by omega) (by omega) ?_
  (conv => whnf)
  refine ⟨k + 1, ?_, ⟨(by repeat' (first | exact trivial | refine ⟨rfl, ?_⟩)), ⟨?_, (by repeat' (first | exact trivial | refine ⟨rfl, ?_⟩))⟩, (by repeat' (first | exact trivial | refine ⟨rfl, ?_⟩))⟩, ?_⟩
  · show k + 1 ≤ l.length; omega
  · show alignL (lay (mix [AV.i .i64 0, .b false, .lst 0 0 5 []] (l.map Wire.c).length (l.map Wire.c) k) (k * 3) (Wire.c r)) _ = _
    rw [show lay (mix [AV.i .i64 0, .b false, .lst 0 0 5 []] (l.map Wire.c).length (l.map Wire.c) k) (k * 3) (Wire.c r) = _ from mix_lay hb1 rfl hr]; exact mix_align hb2 hz
  · show l.length - (k + 1) < l.length - k; omega
theorem toByteSS_ok (l : List (List Int)) (hl : l.length ≤ 1100000) (hs : ∀ e ∈ l, e.length ≤ 1100000) : Pure 118 [(false, [.lst 0 0 22 (l.map byc)])] (.pv (false, [.lst 0 0 22 (l.map byc)])) := by
  have hb : ∀ xs ∈ l.map byc, xs.length = ([AV.lst 0 0 5 []]).length ∧ flat xs := by
    intro xs hx
    obtain ⟨r, _, rfl⟩ := List.mem_map.1 hx
    exact ⟨rfl, flat_of rfl⟩
  have hb1 : ∀ xs ∈ l.map byc, xs.length = ([AV.lst 0 0 5 []]).length := fun xs hx => (hb xs hx).1
  have hb2 : ∀ xs ∈ l.map byc, flat xs := fun xs hx => (hb xs hx).2
  have hz : flat [AV.lst 0 0 5 []] := flat_of rfl
  have hbl : (l.map byc).length = l.length := by simp
  have hbl1 : (l.map byc).length = l.length := by simp
  refine fn_of_vc tab_ok mixed Try.call118 Try.func118 rfl [] _ _ (by kernel_rfl) rfl rfl rfl ?_
  (conv => whnf)
  refine ⟨rfl, ?_, ?_, ?_, ?_⟩
  · omega
  · show ((l.map byc).length : Int) * 24 ≤ _; omega
  · show ((l.map byc).length : Int) ≤ _; omega
  rw [show (l.map byc).length = (l.map byc).length by simp]
  (conv => whnf)
  rw [forceL_eq]
  (conv => whnf)
  refine ⟨Nat, fun x => x ≤ l.length, fun x => ⟨[(0, .one (.lst 0 0 22 (l.map byc))), (3, .one (.row 7 (l.map byc).length 22)), (4, .one (.i .i64 x))], [(7, mix [AV.lst 0 0 5 []] (l.map byc).length (l.map byc) x)], [(1, 0)], [7], [1]⟩, fun x => l.length - x, 0, fun x => ?_, ?_, ⟨(by repeat' (first | exact trivial | refine ⟨rfl, ?_⟩)), ⟨?_, (by repeat' (first | exact trivial | refine ⟨rfl, ?_⟩))⟩, (by repeat' (first | exact trivial | refine ⟨rfl, ?_⟩))⟩, ?_⟩
  · exact pat_row rfl (mix_pat hb2 hz) rfl
  · show 0 ≤ l.length; omega
  · show alignL (rep0 [AV.lst 1 0 5 []] (l.map byc).length) _ = _
    rw [mix_zero]; exact rep0_align [AV.lst 1 0 5 []] _
  rintro k hk
  (conv => whnf); split <;> rename_i h4 <;> simp only [decide_eq_true_eq, decide_eq_false_iff_not] at h4
  case h_2 =>
    (conv => whnf)
    have hke : k = (l.map byc).length := by omega
    subst hke
    refine retRow (by rfl) (by rfl) (by rfl) (by rfl) (by rfl) (by rfl) ?_ ?_ ?_
    · exact mix_len hb1 rfl (Nat.le_refl _)
    · rw [stripV_self (mix_mem (fun xs hx x hy => (hb2 xs hx x hy).1) fun x hx => (hz x hx).1)]
      exact mix_mem (fun xs hx x hy => (hb2 xs hx x hy).2.1) fun x hx => (hz x hx).2.1
    · show _ = _
      rw [stripV_self (mix_mem (fun xs hx x hy => (hb2 xs hx x hy).1) fun x hx => (hz x hx).1), mix_all rfl]
      show ({ res := .pv (false, [.lst 0 0 22 (chunks 1 (l.map byc).length (l.map byc).flatten)]) } : Out) = _
      have h := chunks_flatten hb1; simp only [List.length_cons, List.length_nil] at h; rw [h]
  have hlt : k < l.length := by omega
  obtain ⟨hr1, hm⟩ := get_map byc l k hlt
  obtain ⟨hr, _⟩ := get_map byc l k hlt
  generalize l[k] = r at hr1 hr hm
  (conv => whnf)
  refine goIdx (byc r) (by omega) rfl (by simpa using hr1) ?_
  (conv => whnf); refine goP (toByteS_ok r (hs r hm)) ?_
  (conv => whnf)
  refine ⟨⟨by omega, by omega⟩, ?_⟩
  (conv => whnf)
  refine goIf ?_ ?_
  · show (true && Nat.ble (k * 1 + 1) (mix [AV.lst 0 0 5 []] (l.map byc).length (l.map byc) k).length && true) = true
    rw [mix_len hb1 rfl (by omega)]; simp; omega
  (conv => whnf)
  rw [forceL_eq]
  (conv => whnf)
  refine goW (by omega) (by omega) ?_
  (conv => whnf)
  refine ⟨k + 1, ?_, ⟨(by repeat' (first | exact trivial | refine ⟨rfl, ?_⟩)), ⟨?_, (by repeat' (first | exact trivial | refine ⟨rfl, ?_⟩))⟩, (by repeat' (first | exact trivial | refine ⟨rfl, ?_⟩))⟩, ?_⟩
  · show k + 1 ≤ l.length; omega
  · show alignL (lay (mix [AV.lst 0 0 5 []] (l.map byc).length (l.map byc) k) (k * 1) (byc r)) _ = _
    rw [show lay (mix [AV.lst 0 0 5 []] (l.map byc).length (l.map byc) k) (k * 1) (byc r) = _ from mix_lay hb1 rfl hr]; exact mix_align hb2 hz
  · show l.length - (k + 1) < l.length - k; omega
theorem szT_r2 {left : Int} {n : Nat} (h : 0 ≤ left ∧ left ≤ 1048576) : -1 ≤ szT left n ∧ szT left n ≤ 1048576 ∧ (0 ≤ szT left n → (n : Int) ≤ 1048576) := by
  unfold szT; split <;> omega
theorem szWatchS_ok (l : List Watch) (left : Int) (h0 : 0 ≤ left ∧ left ≤ 1048576) (hl : l.length ≤ 9223372036854775807) : Pure 54 [(false, [.lst 0 0 72 (l.map Watch.c)]), int left] (.pv (int (szT left l.length))) := by
  refine fn_of_vc tab_ok mixed Try.call54 Try.func54 rfl [] _ _ (by kernel_rfl) rfl rfl rfl ?_
  repeat' ((conv => whnf); first
      | (fail)
      | (split <;> rename_i hq <;> (try simp only [Bool.not_eq_eq_eq_not, Bool.not_true, Bool.not_false, decide_eq_true_eq, decide_eq_false_iff_not, inB_t, inB_f, bytes_len, List.length_map, Bool.and_eq_true, Bool.and_eq_false_iff, and_true] at hq) <;> (try (exfalso; first | omega | (simp_all; done))))
      | (refine goW (by first | omega | (simp; omega)) (by first | omega | (simp; omega)) ?_)
      | (refine ret1 (by rfl) (by rfl) (outB ?_); first | rfl | grind [szT])
      | (refine ret1 (by rfl) (by rfl) (outI ?_); first | rfl | omega | grind [szT])
      | (refine ret1 (by rfl) (by rfl) (outB ?_)) | (refine ret1 (by rfl) (by rfl) (outI ?_)))
theorem szWire_ok (r : Wire) (left : Int) (h0 : 0 ≤ left ∧ left ≤ 1048576) (hl : r.data.length ≤ 9223372036854775807) : Pure 152 [r.v, int left] (.pv (int (szT left r.data.length))) := by
  refine fn_of_vc tab_ok mixed Try.call152 Try.func152 rfl [] _ _ (by kernel_rfl) rfl rfl rfl ?_
  (conv => whnf); refine goP (szByteS_ok r.data left h0 hl) ?_
  (conv => whnf); split <;> rename_i hq <;> simp only [decide_eq_true_eq, decide_eq_false_iff_not] at hq
  · have : szT left r.data.length = -1 := by unfold szT at hq ⊢; split at hq <;> simp_all <;> omega
    rw [this]; (conv => whnf); exact ret1 (by rfl) (by rfl) (by rfl)
  · (conv => whnf); exact ret1 (by rfl) (by rfl) (by rfl)
/-- What is left: none, or all was small. -/
def SzR (p : Prop) (v : TV) : Prop := ∃ n : Int, v = .pv (int n) ∧ -1 ≤ n ∧ n ≤ 1048576 ∧ (0 ≤ n → p)
theorem szEndS_ok (l : List (End)) (left : Int) (h0 : 0 ≤ left ∧ left ≤ 1048576) (hl : l.length ≤ 9223372036854775807) (hs : ∀ e ∈ l, e.fits) : Fx 55 [(false, [.lst 0 0 68 (l.map End.cL)]), int left] (SzR (l.length ≤ 1048576 ∧ ∀ e ∈ l, e.small)) := by
  have hll : (l.map End.cL).length = l.length := by simp
  refine fn_of_vc tab_ok mixed Try.call55 Try.func55 rfl [] _ _ (by kernel_rfl) rfl rfl rfl ?_
  (conv => whnf); refine goW (by omega) (by omega) ?_
  (conv => whnf); split <;> rename_i hq <;> simp only [decide_eq_true_eq, decide_eq_false_iff_not] at hq
  · (conv => whnf); exact retE (by rfl) (by rfl) ⟨-1, rfl, by omega, by omega, fun h => by omega⟩
  (conv => whnf)
  refine ⟨Nat × Int, fun x => x.1 ≤ l.length ∧ (0 ≤ x.2 ∧ x.2 ≤ 1048576) ∧ ∀ j (hj : j < l.length), j < x.1 → (fun e : End => e.small) l[j], fun x => ⟨[(0, .one (.lst 0 0 68 (l.map End.cL))), (1, .one (.i .i64 x.2)), (5, .one (.i .i64 x.1))], [], [(1, 0)], [], [1]⟩, fun x => l.length - x.1, (0, left - (l.map End.cL).length), fun x => rfl, ?_, (by refine ⟨?_, ?_, ?_⟩ <;> repeat' (first | exact trivial | refine ⟨rfl, ?_⟩)), ?_⟩
  · exact ⟨by simp, by dsimp only; omega, fun j _ hj => by simp at hj⟩
  rintro ⟨k, left2⟩ ⟨hk, hleft, hj⟩
  dsimp only at hk hleft hj
  (conv => whnf); split <;> rename_i h4 <;> simp only [decide_eq_true_eq, decide_eq_false_iff_not] at h4
  case h_2 =>
    (conv => whnf)
    refine retE (by rfl) (by rfl) ⟨left2, rfl, by omega, by omega, fun h => ⟨by omega, fun e he => ?_⟩⟩
    obtain ⟨j, hj1, rfl⟩ := List.getElem_of_mem he
    exact hj j hj1 (by omega)
  have hlt : k < l.length := by omega
  obtain ⟨hr, hm⟩ := get_map End.cL l k hlt
  have hke : ∀ p : End → Prop, p l[k] → ∀ j (hj : j < l.length), j = k → p l[j] := fun p hp j hj e => by subst e; exact hp
  generalize l[k] = r at hr hm hke
  (conv => whnf)
  refine goIdx (End.cL r) (by omega) rfl (by simpa using hr) ?_
  (conv => whnf); refine goP (szEnd_ok r left2 (by omega) (hs r hm)) ?_
  (conv => whnf); split <;> rename_i hq2 <;> simp only [decide_eq_true_eq, decide_eq_false_iff_not] at hq2
  · (conv => whnf); exact retE (by rfl) (by rfl) ⟨-1, rfl, by omega, by omega, fun h => by omega⟩
  obtain ⟨a1, a2, a3⟩ := szT_r (by omega) hq2
  (conv => whnf); refine goW (by omega) (by omega) ?_
  (conv => whnf)
  refine ⟨(k + 1, _), ?_, (by refine ⟨?_, ?_, ?_⟩ <;> repeat' (first | exact trivial | refine ⟨rfl, ?_⟩)), ?_⟩
  · refine ⟨by dsimp only; omega, a1, fun j hj1 hj2 => ?_⟩
    by_cases hjk : j = k
    · exact hke (fun e : End => e.small) (szT_small (by omega) hq2) j hj1 hjk
    · exact hj j hj1 (by dsimp only at hj2; omega)
  · show l.length - (k + 1) < l.length - k; omega
theorem szWireS_ok (l : List (Wire)) (left : Int) (h0 : 0 ≤ left ∧ left ≤ 1048576) (hl : l.length ≤ 9223372036854775807) (hs : ∀ e ∈ l, e.data.length ≤ 9223372036854775807) : Fx 115 [(false, [.lst 0 0 179 (l.map Wire.c)]), int left] (SzR (l.length ≤ 1048576 ∧ ∀ e ∈ l, e.data.length ≤ 1100000)) := by
  have hll : (l.map Wire.c).length = l.length := by simp
  refine fn_of_vc tab_ok mixed Try.call115 Try.func115 rfl [] _ _ (by kernel_rfl) rfl rfl rfl ?_
  (conv => whnf); refine goW (by omega) (by omega) ?_
  (conv => whnf); split <;> rename_i hq <;> simp only [decide_eq_true_eq, decide_eq_false_iff_not] at hq
  · (conv => whnf); exact retE (by rfl) (by rfl) ⟨-1, rfl, by omega, by omega, fun h => by omega⟩
  (conv => whnf)
  refine ⟨Nat × Int, fun x => x.1 ≤ l.length ∧ (0 ≤ x.2 ∧ x.2 ≤ 1048576) ∧ ∀ j (hj : j < l.length), j < x.1 → (fun e : Wire => e.data.length ≤ 1100000) l[j], fun x => ⟨[(0, .one (.lst 0 0 179 (l.map Wire.c))), (1, .one (.i .i64 x.2)), (5, .one (.i .i64 x.1))], [], [(1, 0)], [], [1]⟩, fun x => l.length - x.1, (0, left - (l.map Wire.c).length), fun x => rfl, ?_, (by refine ⟨?_, ?_, ?_⟩ <;> repeat' (first | exact trivial | refine ⟨rfl, ?_⟩)), ?_⟩
  · exact ⟨by simp, by dsimp only; omega, fun j _ hj => by simp at hj⟩
  rintro ⟨k, left2⟩ ⟨hk, hleft, hj⟩
  dsimp only at hk hleft hj
  (conv => whnf); split <;> rename_i h4 <;> simp only [decide_eq_true_eq, decide_eq_false_iff_not] at h4
  case h_2 =>
    (conv => whnf)
    refine retE (by rfl) (by rfl) ⟨left2, rfl, by omega, by omega, fun h => ⟨by omega, fun e he => ?_⟩⟩
    obtain ⟨j, hj1, rfl⟩ := List.getElem_of_mem he
    exact hj j hj1 (by omega)
  have hlt : k < l.length := by omega
  obtain ⟨hr, hm⟩ := get_map Wire.c l k hlt
  have hke : ∀ p : Wire → Prop, p l[k] → ∀ j (hj : j < l.length), j = k → p l[j] := fun p hp j hj e => by subst e; exact hp
  generalize l[k] = r at hr hm hke
  (conv => whnf)
  refine goIdx (Wire.c r) (by omega) rfl (by simpa using hr) ?_
  (conv => whnf); refine goP (szWire_ok r left2 (by omega) (hs r hm)) ?_
  (conv => whnf); split <;> rename_i hq2 <;> simp only [decide_eq_true_eq, decide_eq_false_iff_not] at hq2
  · (conv => whnf); exact retE (by rfl) (by rfl) ⟨-1, rfl, by omega, by omega, fun h => by omega⟩
  obtain ⟨a1, a2, a3⟩ := szT_r (by omega) hq2
  (conv => whnf); refine goW (by omega) (by omega) ?_
  (conv => whnf)
  refine ⟨(k + 1, _), ?_, (by refine ⟨?_, ?_, ?_⟩ <;> repeat' (first | exact trivial | refine ⟨rfl, ?_⟩)), ?_⟩
  · refine ⟨by dsimp only; omega, a1, fun j hj1 hj2 => ?_⟩
    by_cases hjk : j = k
    · exact hke (fun e : Wire => e.data.length ≤ 1100000) ((by have := (szT_r (by omega) hq2).2.2; omega)) j hj1 hjk
    · exact hj j hj1 (by dsimp only at hj2; omega)
  · show l.length - (k + 1) < l.length - k; omega
theorem szByteSS_ok (l : List (List Int)) (left : Int) (h0 : 0 ≤ left ∧ left ≤ 1048576) (hl : l.length ≤ 9223372036854775807) (hs : ∀ e ∈ l, e.length ≤ 9223372036854775807) : Fx 116 [(false, [.lst 0 0 22 (l.map byc)]), int left] (SzR (l.length ≤ 1048576 ∧ ∀ e ∈ l, e.length ≤ 1100000)) := by
  have hll : (l.map byc).length = l.length := by simp
  refine fn_of_vc tab_ok mixed Try.call116 Try.func116 rfl [] _ _ (by kernel_rfl) rfl rfl rfl ?_
  (conv => whnf); refine goW (by omega) (by omega) ?_
  (conv => whnf); split <;> rename_i hq <;> simp only [decide_eq_true_eq, decide_eq_false_iff_not] at hq
  · (conv => whnf); exact retE (by rfl) (by rfl) ⟨-1, rfl, by omega, by omega, fun h => by omega⟩
  (conv => whnf)
  refine ⟨Nat × Int, fun x => x.1 ≤ l.length ∧ (0 ≤ x.2 ∧ x.2 ≤ 1048576) ∧ ∀ j (hj : j < l.length), j < x.1 → (fun e : List Int => e.length ≤ 1100000) l[j], fun x => ⟨[(0, .one (.lst 0 0 22 (l.map byc))), (1, .one (.i .i64 x.2)), (5, .one (.i .i64 x.1))], [], [(1, 0)], [], [1]⟩, fun x => l.length - x.1, (0, left - (l.map byc).length), fun x => rfl, ?_, (by refine ⟨?_, ?_, ?_⟩ <;> repeat' (first | exact trivial | refine ⟨rfl, ?_⟩)), ?_⟩
  · exact ⟨by simp, by dsimp only; omega, fun j _ hj => by simp at hj⟩
  rintro ⟨k, left2⟩ ⟨hk, hleft, hj⟩
  dsimp only at hk hleft hj
  (conv => whnf); split <;> rename_i h4 <;> simp only [decide_eq_true_eq, decide_eq_false_iff_not] at h4
  case h_2 =>
    (conv => whnf)
    refine retE (by rfl) (by rfl) ⟨left2, rfl, by omega, by omega, fun h => ⟨by omega, fun e he => ?_⟩⟩
    obtain ⟨j, hj1, rfl⟩ := List.getElem_of_mem he
    exact hj j hj1 (by omega)
  have hlt : k < l.length := by omega
  obtain ⟨hr, hm⟩ := get_map byc l k hlt
  have hke : ∀ p : List Int → Prop, p l[k] → ∀ j (hj : j < l.length), j = k → p l[j] := fun p hp j hj e => by subst e; exact hp
  generalize l[k] = r at hr hm hke
  (conv => whnf)
  refine goIdx (byc r) (by omega) rfl (by simpa using hr) ?_
  (conv => whnf); refine goP (szByteS_ok r left2 (by omega) (hs r hm)) ?_
  (conv => whnf); split <;> rename_i hq2 <;> simp only [decide_eq_true_eq, decide_eq_false_iff_not] at hq2
  · (conv => whnf); exact retE (by rfl) (by rfl) ⟨-1, rfl, by omega, by omega, fun h => by omega⟩
  obtain ⟨a1, a2, a3⟩ := szT_r (by omega) hq2
  (conv => whnf); refine goW (by omega) (by omega) ?_
  (conv => whnf)
  refine ⟨(k + 1, _), ?_, (by refine ⟨?_, ?_, ?_⟩ <;> repeat' (first | exact trivial | refine ⟨rfl, ?_⟩)), ?_⟩
  · refine ⟨by dsimp only; omega, a1, fun j hj1 hj2 => ?_⟩
    by_cases hjk : j = k
    · exact hke (fun e : List Int => e.length ≤ 1100000) ((by have := (szT_r (by omega) hq2).2.2; omega)) j hj1 hjk
    · exact hj j hj1 (by dsimp only at hj2; omega)
  · show l.length - (k + 1) < l.length - k; omega
theorem eqIntS_ok (l : List (Int)) (hl : l.length ≤ 1100000)  : Pure 58 [(false, [.lst 0 0 3 (l.map ic)]), (false, [.lst 0 0 3 (l.map ic)])] (.pv (bool true)) := by
  have hll : (l.map ic).length = l.length := by simp
  refine fn_of_vc tab_ok mixed Try.call58 Try.func58 rfl [] _ _ (by kernel_rfl) rfl rfl rfl ?_
  (conv => whnf); split <;> rename_i hq
  · simp at hq
  (conv => whnf)
  refine ⟨Nat, fun x => x ≤ l.length, fun x => ⟨[(0, .one (.lst 0 0 3 (l.map ic))), (1, .one (.lst 0 0 3 (l.map ic))), (5, .one (.i .i64 x))], [], [(1, 0)], [], [1]⟩, fun x => l.length - x, 0, fun x => rfl, ?_, (by refine ⟨?_, ?_, ?_⟩ <;> repeat' (first | exact trivial | refine ⟨rfl, ?_⟩)), ?_⟩
  · show 0 ≤ l.length; omega
  rintro k hk
  (conv => whnf); split <;> rename_i h4 <;> simp only [decide_eq_true_eq, decide_eq_false_iff_not] at h4
  case h_2 =>
    (conv => whnf); exact ret1 (by rfl) (by rfl) (by rfl)
  have hlt : k < l.length := by omega
  obtain ⟨hr, hm⟩ := get_map ic l k hlt
  generalize l[k] = r at hr hm
  (conv => whnf)
  refine ⟨[0, 1, 2, 3, 4, 5, 6, 7, 8], [], (by kernel_rfl), ?_⟩
  (conv => whnf)
  refine goIdx (ic r) (by omega) rfl (by simpa using hr) ?_
  (conv => whnf)
  refine goIdx (ic r) (by omega) rfl (by simpa using hr) ?_
  (conv => whnf); split <;> rename_i hq2
  · simp at hq2
  (conv => whnf)
  refine goW (by omega) (by omega) ?_
  (conv => whnf)
  refine ⟨k + 1, ?_, (by refine ⟨?_, ?_, ?_⟩ <;> repeat' (first | exact trivial | refine ⟨rfl, ?_⟩)), ?_⟩
  · show k + 1 ≤ l.length; omega
  · show l.length - (k + 1) < l.length - k; omega
theorem eqWatchS_ok (l : List (Watch)) (hl : l.length ≤ 1100000)  : Pure 59 [(false, [.lst 0 0 24 (l.map Watch.c)]), (false, [.lst 0 0 24 (l.map Watch.c)])] (.pv (bool true)) := by
  have hll : (l.map Watch.c).length = l.length := by simp
  refine fn_of_vc tab_ok mixed Try.call59 Try.func59 rfl [] _ _ (by kernel_rfl) rfl rfl rfl ?_
  (conv => whnf); split <;> rename_i hq
  · simp at hq
  (conv => whnf)
  refine ⟨Nat, fun x => x ≤ l.length, fun x => ⟨[(0, .one (.lst 0 0 24 (l.map Watch.c))), (1, .one (.lst 0 0 24 (l.map Watch.c))), (5, .one (.i .i64 x))], [], [(1, 0)], [], [1]⟩, fun x => l.length - x, 0, fun x => rfl, ?_, (by refine ⟨?_, ?_, ?_⟩ <;> repeat' (first | exact trivial | refine ⟨rfl, ?_⟩)), ?_⟩
  · show 0 ≤ l.length; omega
  rintro k hk
  (conv => whnf); split <;> rename_i h4 <;> simp only [decide_eq_true_eq, decide_eq_false_iff_not] at h4
  case h_2 =>
    (conv => whnf); exact ret1 (by rfl) (by rfl) (by rfl)
  have hlt : k < l.length := by omega
  obtain ⟨hr, hm⟩ := get_map Watch.c l k hlt
  generalize l[k] = r at hr hm
  (conv => whnf)
  refine ⟨[0, 1, 2, 3, 4, 5, 6, 7, 8, 9], [], (by kernel_rfl), ?_⟩
  (conv => whnf)
  refine goIdx (Watch.c r) (by omega) rfl (by simpa using hr) ?_
  (conv => whnf)
  refine goIdx (Watch.c r) (by omega) rfl (by simpa using hr) ?_
  (conv => whnf); refine goP (eqWatch_ok r) ?_
  (conv => whnf)
  refine goW (by omega) (by omega) ?_
  (conv => whnf)
  refine ⟨k + 1, ?_, (by refine ⟨?_, ?_, ?_⟩ <;> repeat' (first | exact trivial | refine ⟨rfl, ?_⟩)), ?_⟩
  · show k + 1 ≤ l.length; omega
  · show l.length - (k + 1) < l.length - k; omega
theorem eqEndS_ok (l : List (End)) (hl : l.length ≤ 1100000) (hs : ∀ e ∈ l, e.small) : Pure 60 [(false, [.lst 0 0 34 (l.map End.c)]), (false, [.lst 0 0 34 (l.map End.c)])] (.pv (bool true)) := by
  have hll : (l.map End.c).length = l.length := by simp
  refine fn_of_vc tab_ok mixed Try.call60 Try.func60 rfl [] _ _ (by kernel_rfl) rfl rfl rfl ?_
  (conv => whnf); split <;> rename_i hq
  · simp at hq
  (conv => whnf)
  refine ⟨Nat, fun x => x ≤ l.length, fun x => ⟨[(0, .one (.lst 0 0 34 (l.map End.c))), (1, .one (.lst 0 0 34 (l.map End.c))), (5, .one (.i .i64 x))], [], [(1, 0)], [], [1]⟩, fun x => l.length - x, 0, fun x => rfl, ?_, (by refine ⟨?_, ?_, ?_⟩ <;> repeat' (first | exact trivial | refine ⟨rfl, ?_⟩)), ?_⟩
  · show 0 ≤ l.length; omega
  rintro k hk
  (conv => whnf); split <;> rename_i h4 <;> simp only [decide_eq_true_eq, decide_eq_false_iff_not] at h4
  case h_2 =>
    (conv => whnf); exact ret1 (by rfl) (by rfl) (by rfl)
  have hlt : k < l.length := by omega
  obtain ⟨hr, hm⟩ := get_map End.c l k hlt
  generalize l[k] = r at hr hm
  (conv => whnf)
  refine ⟨[0, 1, 2, 3, 4, 5, 6, 7, 8, 9], [], (by kernel_rfl), ?_⟩
  (conv => whnf)
  refine goIdx (End.c r) (by omega) rfl (by simpa using hr) ?_
  (conv => whnf)
  refine goIdx (End.c r) (by omega) rfl (by simpa using hr) ?_
  (conv => whnf); refine goP (eqEnd_ok r (hs r hm)) ?_
  (conv => whnf)
  refine goW (by omega) (by omega) ?_
  (conv => whnf)
  refine ⟨k + 1, ?_, (by refine ⟨?_, ?_, ?_⟩ <;> repeat' (first | exact trivial | refine ⟨rfl, ?_⟩)), ?_⟩
  · show k + 1 ≤ l.length; omega
  · show l.length - (k + 1) < l.length - k; omega
theorem eqWireS_ok (l : List (Wire)) (hl : l.length ≤ 1100000) (hs : ∀ e ∈ l, e.data.length ≤ 1100000) : Pure 121 [(false, [.lst 0 0 144 (l.map Wire.c)]), (false, [.lst 0 0 144 (l.map Wire.c)])] (.pv (bool true)) := by
  have hll : (l.map Wire.c).length = l.length := by simp
  refine fn_of_vc tab_ok mixed Try.call121 Try.func121 rfl [] _ _ (by kernel_rfl) rfl rfl rfl ?_
  (conv => whnf); split <;> rename_i hq
  · simp at hq
  (conv => whnf)
  refine ⟨Nat, fun x => x ≤ l.length, fun x => ⟨[(0, .one (.lst 0 0 144 (l.map Wire.c))), (1, .one (.lst 0 0 144 (l.map Wire.c))), (5, .one (.i .i64 x))], [], [(1, 0)], [], [1]⟩, fun x => l.length - x, 0, fun x => rfl, ?_, (by refine ⟨?_, ?_, ?_⟩ <;> repeat' (first | exact trivial | refine ⟨rfl, ?_⟩)), ?_⟩
  · show 0 ≤ l.length; omega
  rintro k hk
  (conv => whnf); split <;> rename_i h4 <;> simp only [decide_eq_true_eq, decide_eq_false_iff_not] at h4
  case h_2 =>
    (conv => whnf); exact ret1 (by rfl) (by rfl) (by rfl)
  have hlt : k < l.length := by omega
  obtain ⟨hr, hm⟩ := get_map Wire.c l k hlt
  generalize l[k] = r at hr hm
  (conv => whnf)
  refine ⟨[0, 1, 2, 3, 4, 5, 6, 7, 8, 9], [], (by kernel_rfl), ?_⟩
  (conv => whnf)
  refine goIdx (Wire.c r) (by omega) rfl (by simpa using hr) ?_
  (conv => whnf)
  refine goIdx (Wire.c r) (by omega) rfl (by simpa using hr) ?_
  (conv => whnf); refine goP (eqWire_ok r (hs r hm)) ?_
  (conv => whnf)
  refine goW (by omega) (by omega) ?_
  (conv => whnf)
  refine ⟨k + 1, ?_, (by refine ⟨?_, ?_, ?_⟩ <;> repeat' (first | exact trivial | refine ⟨rfl, ?_⟩)), ?_⟩
  · show k + 1 ≤ l.length; omega
  · show l.length - (k + 1) < l.length - k; omega
theorem eqByteSS_ok (l : List (List Int)) (hl : l.length ≤ 1100000) (hs : ∀ e ∈ l, e.length ≤ 1100000) : Pure 122 [(false, [.lst 0 0 22 (l.map byc)]), (false, [.lst 0 0 22 (l.map byc)])] (.pv (bool true)) := by
  have hll : (l.map byc).length = l.length := by simp
  refine fn_of_vc tab_ok mixed Try.call122 Try.func122 rfl [] _ _ (by kernel_rfl) rfl rfl rfl ?_
  (conv => whnf); split <;> rename_i hq
  · simp at hq
  (conv => whnf)
  refine ⟨Nat, fun x => x ≤ l.length, fun x => ⟨[(0, .one (.lst 0 0 22 (l.map byc))), (1, .one (.lst 0 0 22 (l.map byc))), (5, .one (.i .i64 x))], [], [(1, 0)], [], [1]⟩, fun x => l.length - x, 0, fun x => rfl, ?_, (by refine ⟨?_, ?_, ?_⟩ <;> repeat' (first | exact trivial | refine ⟨rfl, ?_⟩)), ?_⟩
  · show 0 ≤ l.length; omega
  rintro k hk
  (conv => whnf); split <;> rename_i h4 <;> simp only [decide_eq_true_eq, decide_eq_false_iff_not] at h4
  case h_2 =>
    (conv => whnf); exact ret1 (by rfl) (by rfl) (by rfl)
  have hlt : k < l.length := by omega
  obtain ⟨hr, hm⟩ := get_map byc l k hlt
  generalize l[k] = r at hr hm
  (conv => whnf)
  refine ⟨[0, 1, 2, 3, 4, 5, 6, 7, 8, 9], [], (by kernel_rfl), ?_⟩
  (conv => whnf)
  refine goIdx (byc r) (by omega) rfl (by simpa using hr) ?_
  (conv => whnf)
  refine goIdx (byc r) (by omega) rfl (by simpa using hr) ?_
  (conv => whnf); refine goP (eqByteS_ok r (hs r hm)) ?_
  (conv => whnf)
  refine goW (by omega) (by omega) ?_
  (conv => whnf)
  refine ⟨k + 1, ?_, (by refine ⟨?_, ?_, ?_⟩ <;> repeat' (first | exact trivial | refine ⟨rfl, ?_⟩)), ?_⟩
  · show k + 1 ≤ l.length; omega
  · show l.length - (k + 1) < l.length - k; omega
end Go.Proofs.Ytpeejmolbmhjjaa.Sx
end

section
namespace Go.Proofs.Ytpeejmolbmhjjaa.Sx
set_option linter.unusedSimpArgs false
set_option linter.unusedVariables false
open Go Go.RowKit Go.ChangeShapes Go.WideShapes Go.ChangeAt Go.Deep
set_option maxRecDepth 100000
theorem o76 {c : Bool} : Op Try.prog c 76 (isLst 68 isEnd) := op_slice (sz := 23) Try.underlying76 (by kernel_rfl) o68
theorem o89 {c : Bool} : Op Try.prog c 89 (isLst 72 (isTwo (isInt .i64) (isInt .i64))) := op_slice (sz := 1) Try.underlying89 (by kernel_rfl) o72
theorem ends_of {av : List AV} (h : isLst 68 isEnd av) : ∃ l : List End, av = [.lst 0 0 68 (l.map End.cL)] ∧ l.length ≤ 9223372036854775807 ∧ ∀ e ∈ l, e.fits := by
  obtain ⟨es, rfl, hl, hq⟩ := h
  obtain ⟨l, rfl, hf⟩ := list_of (f := End.cL) (W := End.fits) (fun xs h => end_of h) es hq
  rw [List.length_map] at hl
  unfold maxLen at hl
  exact ⟨l, rfl, by omega, hf⟩
theorem watches_of {av : List AV} (h : isLst 72 (isTwo (isInt .i64) (isInt .i64)) av) : ∃ l : List Watch, av = [.lst 0 0 72 (l.map Watch.c)] ∧ l.length ≤ 9223372036854775807 := by
  obtain ⟨es, rfl, hl, hq⟩ := h
  obtain ⟨l, rfl, hf⟩ := list_of (f := Watch.c) (W := fun _ => True) (fun xs h => by obtain ⟨e, rfl⟩ := watch_of h; exact ⟨e, rfl, trivial⟩) es hq
  rw [List.length_map] at hl
  unfold maxLen at hl
  exact ⟨l, rfl, by omega⟩
theorem slice_arg {t e : TypeId} {Q : List AV → Prop} (ht : Try.prog.underlying t = some (.slice e)) (ho : Op Try.prog true t Q) {H : Type} {enc : TypeId × Value → H} {W : World} {r : Reach} {base base' : Nat} {spare : Nat → Bool} {held : Bool} {v : Value} {x : DataW H × List MemPlace}
    (ok : Value.okWide Try.prog W r base' t v) (h : ∃ fuel, DataW.trod enc Try.prog W base spare held fuel t v.cells.toList = some x) (β : Nat → Nat) :
    ∃ av, Q av ∧ RepL (Rep Try.prog (fun _ _ => False) β (fun _ => false) W) av [v] := by
  obtain ⟨a, len, cap, rfl⟩ := okWide_slice ht ok
  obtain ⟨fuel, hf⟩ := h
  have hc : (Value.slice a len cap).cells.toList = [.slice a len cap] := by simp [Value.cells]
  rw [hc] at hf
  obtain ⟨av, h1, _, h2⟩ := ho _ _ _ _ _ _ _ _ _ hf (fun _ b l c hm => by
    simp only [List.mem_singleton] at hm
    injection hm with e1 e2 e3
    subst e1
    simp only [Value.okWide, ht, Cell.okWide, Cell.ok, World.has] at ok
    exact ok.2.2.2.1)
  exact ⟨av, h2, h1 _ _⟩
theorem watches_arg {W : World} {β : Nat → Nat} {av : List AV} {v : Value} (h : isLst 72 (isTwo (isInt .i64) (isInt .i64)) av) (hr : RepL (Rep Try.prog (fun _ _ => False) β (fun _ => false) W) av [v]) :
    ∃ l : List Watch, Rep Try.prog (fun _ _ => False) β (fun _ => false) W (.lst 0 0 72 (l.map Watch.c)) v ∧ l.length ≤ 9223372036854775807 := by
  obtain ⟨l, rfl, hl⟩ := watches_of h
  exact ⟨l, hr.2 0 _ v rfl rfl, hl⟩
theorem ends_arg {W : World} {β : Nat → Nat} {av : List AV} {v : Value} (h : isLst 68 isEnd av) (hr : RepL (Rep Try.prog (fun _ _ => False) β (fun _ => false) W) av [v]) :
    ∃ l : List End, Rep Try.prog (fun _ _ => False) β (fun _ => false) W (.lst 0 0 68 (l.map End.cL)) v ∧ l.length ≤ 9223372036854775807 ∧ ∀ e ∈ l, e.fits := by
  obtain ⟨l, rfl, hl, hf⟩ := ends_of h
  exact ⟨l, hr.2 0 _ v rfl rfl, hl, hf⟩
end Go.Proofs.Ytpeejmolbmhjjaa.Sx
end

section
namespace Go.Proofs.Ytpeejmolbmhjjaa.Sx
set_option linter.unusedSimpArgs false
set_option linter.unusedVariables false
open Go
set_option maxRecDepth 100000
set_option maxHeartbeats 0
theorem ren_self {cs : List AV} (h : ∀ x ∈ cs, x.strip = x) (hl : (cs.all fun x => match x with | .ptr _ _ => false | _ => true) = true) : cs.map (renA [] 0) = cs := by
  refine (List.map_congr_left fun x hx => ?_).trans (List.map_id _)
  have h1 := h x hx
  have h2 := List.all_eq_true.1 hl x hx
  cases x with
  | ptr b o => cases h2
  | lst t v e es => exact h1
  | _ => rfl
theorem toByteS_okN (l : List Int) (hl : l.length ≤ 1100000) : Pure 131 [(false, [.lst 0 0 5 (bytes l)])] (.pv (false, [.nl 5 (bytes l)])) := by
  have hb1 : ∀ xs ∈ bytes l, xs.length = [AV.i .u8 0].length := fun xs hx => (bytes_flat xs hx).1
  have hb2 : ∀ xs ∈ bytes l, flat xs := fun xs hx => (bytes_flat xs hx).2
  have hz : flat [AV.i .u8 0] := by intro x hx; simp only [List.mem_singleton] at hx; subst hx; exact ⟨rfl, rfl, fun _ _ => rfl⟩
  have hbl : (bytes l).length = l.length := bytes_len l
  have hnew : ∀ xs ∈ bytes l, ∀ x ∈ xs, newA tab x = true := by
    intro xs hx
    simp only [bytes, List.mem_map] at hx
    obtain ⟨n, _, rfl⟩ := hx
    intro x hx
    simp only [List.mem_singleton] at hx
    subst hx; rfl
  refine fn_of_vc tab_ok mixed Try.call131 Try.func131 rfl [] _ _ (by kernel_rfl) rfl rfl rfl ?_
  (conv => whnf)
  refine ⟨rfl, ?_, ?_, ?_, ?_⟩
  · omega
  · show ((bytes l).length : Int) * 1 ≤ _; omega
  · show ((bytes l).length : Int) ≤ _; omega
  (conv => whnf)
  rw [forceL_eq]
  (conv => whnf)
  refine ⟨Nat, fun x => x ≤ l.length, fun x => ⟨[(0, .one (.lst 0 0 5 (bytes l))), (3, .one (.row 7 (bytes l).length 5)), (4, .one (.i .i64 x))], [(7, mix [.i .u8 0] (bytes l).length (bytes l) x)], [(1, 0)], [7], [1]⟩, fun x => l.length - x, 0, fun x => ?_, ?_, ⟨(by repeat' (first | exact trivial | refine ⟨rfl, ?_⟩)), ⟨?_, (by repeat' (first | exact trivial | refine ⟨rfl, ?_⟩))⟩, (by repeat' (first | exact trivial | refine ⟨rfl, ?_⟩))⟩, ?_⟩
  · exact pat_row rfl (mix_pat hb2 hz) rfl
  · show 0 ≤ l.length; omega
  · show alignL (rep0 [.i .u8 0] (bytes l).length) _ = _
    rw [← mix_zero _ _ (bytes l)]; exact mix_align hb2 hz
  rintro k hk
  (conv => whnf); split <;> rename_i h4 <;> simp only [decide_eq_true_eq, decide_eq_false_iff_not] at h4
  case h_2 =>
    (conv => whnf)
    have hke : k = (bytes l).length := by omega
    subst hke
    refine retRowN (by rfl) (by rfl) (by rfl) (by rfl) (by rfl) (by rfl) ?_ ?_ ?_
    · exact mix_len hb1 rfl (Nat.le_refl _)
    · rw [mix_all rfl]
      intro x hx
      obtain ⟨xs, hxs, hx⟩ := List.mem_flatten.1 hx
      exact hnew xs hxs x hx
    · show _ = _
      rw [stripV_self (mix_mem (fun xs hx x hy => (hb2 xs hx x hy).1) fun x hx => (hz x hx).1), mix_all rfl]
      show ({ res := .pv (false, [.nl 5 (chunks 1 (bytes l).length (bytes l).flatten)]) } : Out) = _
      have h := chunks_flatten hb1; simp only [List.length_cons, List.length_nil] at h; rw [h]
  have hlt : k < (bytes l).length := by omega
  (conv => whnf)
  refine goIdx [.i .u8 (l.getD k 0)] (by omega) rfl (by simpa using bytes_get2 hlt) ?_
  (conv => whnf)
  refine ⟨⟨by omega, by omega⟩, ?_⟩
  (conv => whnf)
  refine goIf ?_ ?_
  · show (true && Nat.ble (k * 1 + 1) (mix [.i .u8 0] (bytes l).length (bytes l) k).length && true) = true
    rw [mix_len hb1 rfl (by omega)]; simp; omega
  (conv => whnf)
  rw [forceL_eq]
  (conv => whnf)
  refine goW (by omega) (by omega) ?_
  (conv => whnf)
  refine ⟨k + 1, ?_, ⟨(by repeat' (first | exact trivial | refine ⟨rfl, ?_⟩)), ⟨?_, (by repeat' (first | exact trivial | refine ⟨rfl, ?_⟩))⟩, (by repeat' (first | exact trivial | refine ⟨rfl, ?_⟩))⟩, ?_⟩
  · show k + 1 ≤ l.length; omega
  · show alignL (lay (mix [.i .u8 0] (bytes l).length (bytes l) k) (k * 1) [.i .u8 (l.getD k 0)]) _ = _
    rw [show lay (mix [.i .u8 0] (bytes l).length (bytes l) k) (k * 1) [.i .u8 (l.getD k 0)] = _ from mix_lay hb1 rfl (bytes_get2 hlt)]; exact mix_align hb2 hz
  · show l.length - (k + 1) < l.length - k; omega
theorem toRangeS_okN (l : List Rng) (hl : l.length ≤ 1100000) : Pure 132 [(false, [.lst 0 0 189 (l.map Rng.c)])] (.pv (false, [.nl 108 (l.map Rng.c)])) := by
  have hb : ∀ xs ∈ l.map Rng.c, xs.length = [AV.i .i64 0, .i .i64 0].length ∧ flat xs := by
    intro xs hx
    obtain ⟨r, _, rfl⟩ := List.mem_map.1 hx
    refine ⟨rfl, fun x hx => ?_⟩
    simp only [Rng.c, List.mem_cons, List.not_mem_nil, or_false] at hx
    rcases hx with rfl | rfl <;> exact ⟨rfl, rfl, fun _ _ => rfl⟩
  have hb1 : ∀ xs ∈ l.map Rng.c, xs.length = [AV.i .i64 0, .i .i64 0].length := fun xs hx => (hb xs hx).1
  have hb2 : ∀ xs ∈ l.map Rng.c, flat xs := fun xs hx => (hb xs hx).2
  have hz : flat [AV.i .i64 0, .i .i64 0] := by
    intro x hx
    simp only [List.mem_cons, List.not_mem_nil, or_false] at hx
    rcases hx with rfl | rfl <;> exact ⟨rfl, rfl, fun _ _ => rfl⟩
  have hbl : (l.map Rng.c).length = l.length := by simp
  have get : ∀ k, k < (l.map Rng.c).length → ∃ r : Rng, (l.map Rng.c)[k]? = some r.c := fun k hk => by
    have hk : k < l.length := by simpa using hk
    exact ⟨l[k], by simp [List.getElem?_map, List.getElem?_eq_getElem hk]⟩
  have hnew : ∀ xs ∈ l.map Rng.c, ∀ x ∈ xs, newA tab x = true := by
    intro xs hx
    obtain ⟨r, _, rfl⟩ := List.mem_map.1 hx
    exact List.all_eq_true.1 (show (Rng.c r).all (newA tab) = true from rfl)
  refine fn_of_vc tab_ok mixed Try.call132 Try.func132 rfl [] _ _ (by kernel_rfl) rfl rfl rfl ?_
  (conv => whnf)
  refine ⟨rfl, ?_, ?_, ?_, ?_⟩
  · omega
  · show ((l.map Rng.c).length : Int) * 16 ≤ _; omega
  · show ((l.map Rng.c).length : Int) ≤ _; omega
  (conv => whnf)
  rw [forceL_eq]
  (conv => whnf)
  refine ⟨Nat, fun x => x ≤ l.length, fun x => ⟨[(0, .one (.lst 0 0 189 (l.map Rng.c))), (3, .one (.row 7 (l.map Rng.c).length 108)), (4, .one (.i .i64 x))], [(7, mix [AV.i .i64 0, .i .i64 0] (l.map Rng.c).length (l.map Rng.c) x)], [(1, 0)], [7], [1]⟩, fun x => l.length - x, 0, fun x => ?_, ?_, ⟨(by repeat' (first | exact trivial | refine ⟨rfl, ?_⟩)), ⟨?_, (by repeat' (first | exact trivial | refine ⟨rfl, ?_⟩))⟩, (by repeat' (first | exact trivial | refine ⟨rfl, ?_⟩))⟩, ?_⟩
  · exact pat_row rfl (mix_pat hb2 hz) rfl
  · show 0 ≤ l.length; omega
  · show alignL (rep0 [AV.i .i64 0, .i .i64 0] (l.map Rng.c).length) _ = _
    rw [← mix_zero _ _ (l.map Rng.c)]; exact mix_align hb2 hz
  rintro k hk
  (conv => whnf); split <;> rename_i h4 <;> simp only [decide_eq_true_eq, decide_eq_false_iff_not] at h4
  case h_2 =>
    (conv => whnf)
    have hke : k = (l.map Rng.c).length := by omega
    subst hke
    refine retRowN (by rfl) (by rfl) (by rfl) (by rfl) (by rfl) (by rfl) ?_ ?_ ?_
    · exact mix_len hb1 rfl (Nat.le_refl _)
    · rw [mix_all rfl]
      intro x hx
      obtain ⟨xs, hxs, hx⟩ := List.mem_flatten.1 hx
      exact hnew xs hxs x hx
    · show _ = _
      rw [stripV_self (mix_mem (fun xs hx x hy => (hb2 xs hx x hy).1) fun x hx => (hz x hx).1), mix_all rfl]
      show ({ res := .pv (false, [.nl 108 (chunks 2 (l.map Rng.c).length (l.map Rng.c).flatten)]) } : Out) = _
      have h := chunks_flatten hb1; simp only [List.length_cons, List.length_nil] at h; rw [h]
  have hlt : k < (l.map Rng.c).length := by omega
  obtain ⟨r, hr⟩ := get k hlt
  (conv => whnf)
  refine goIdx r.c (by omega) rfl (by simpa using hr) ?_
  (conv => whnf); refine goP (toRange_ok r) ?_
  (conv => whnf)
  refine ⟨⟨by omega, by omega⟩, ?_⟩
  (conv => whnf)
  refine goIf ?_ ?_
  · show (true && Nat.ble (k * 2 + 2) (mix [AV.i .i64 0, .i .i64 0] (l.map Rng.c).length (l.map Rng.c) k).length && true) = true
    rw [mix_len hb1 rfl (by omega)]; simp; omega
  (conv => whnf)
  rw [forceL_eq]
  (conv => whnf)
  refine goW (by omega) (by omega) ?_
  (conv => whnf)
  refine ⟨k + 1, ?_, ⟨(by repeat' (first | exact trivial | refine ⟨rfl, ?_⟩)), ⟨?_, (by repeat' (first | exact trivial | refine ⟨rfl, ?_⟩))⟩, (by repeat' (first | exact trivial | refine ⟨rfl, ?_⟩))⟩, ?_⟩
  · show k + 1 ≤ l.length; omega
  · show alignL (lay (mix [AV.i .i64 0, .i .i64 0] (l.map Rng.c).length (l.map Rng.c) k) (k * 2) r.c) _ = _
    rw [show lay (mix [AV.i .i64 0, .i .i64 0] (l.map Rng.c).length (l.map Rng.c) k) (k * 2) r.c = _ from mix_lay hb1 rfl hr]; exact mix_align hb2 hz
  · show l.length - (k + 1) < l.length - k; omega
theorem toEarlyS_okN (l : List Early) (hl : l.length ≤ 1100000) : Pure 151 [(false, [.lst 0 0 206 (l.map Early.c)])] (.pv (false, [.nl 138 (l.map Early.c)])) := by
  have hb : ∀ xs ∈ l.map Early.c, xs.length = [AV.i .i64 0, .i .u8 0].length ∧ flat xs := by
    intro xs hx
    obtain ⟨r, _, rfl⟩ := List.mem_map.1 hx
    refine ⟨rfl, fun x hx => ?_⟩
    simp only [Early.c, List.mem_cons, List.not_mem_nil, or_false] at hx
    rcases hx with rfl | rfl <;> exact ⟨rfl, rfl, fun _ _ => rfl⟩
  have hb1 : ∀ xs ∈ l.map Early.c, xs.length = [AV.i .i64 0, .i .u8 0].length := fun xs hx => (hb xs hx).1
  have hb2 : ∀ xs ∈ l.map Early.c, flat xs := fun xs hx => (hb xs hx).2
  have hz : flat [AV.i .i64 0, .i .u8 0] := by
    intro x hx
    simp only [List.mem_cons, List.not_mem_nil, or_false] at hx
    rcases hx with rfl | rfl <;> exact ⟨rfl, rfl, fun _ _ => rfl⟩
  have hbl : (l.map Early.c).length = l.length := by simp
  have get : ∀ k, k < (l.map Early.c).length → ∃ r : Early, (l.map Early.c)[k]? = some r.c := fun k hk => by
    have hk : k < l.length := by simpa using hk
    exact ⟨l[k], by simp [List.getElem?_map, List.getElem?_eq_getElem hk]⟩
  have hnew : ∀ xs ∈ l.map Early.c, ∀ x ∈ xs, newA tab x = true := by
    intro xs hx
    obtain ⟨r, _, rfl⟩ := List.mem_map.1 hx
    exact List.all_eq_true.1 (show (Early.c r).all (newA tab) = true from rfl)
  refine fn_of_vc tab_ok mixed Try.call151 Try.func151 rfl [] _ _ (by kernel_rfl) rfl rfl rfl ?_
  (conv => whnf)
  refine ⟨rfl, ?_, ?_, ?_, ?_⟩
  · omega
  · show ((l.map Early.c).length : Int) * 16 ≤ _; omega
  · show ((l.map Early.c).length : Int) ≤ _; omega
  (conv => whnf)
  rw [forceL_eq]
  (conv => whnf)
  refine ⟨Nat, fun x => x ≤ l.length, fun x => ⟨[(0, .one (.lst 0 0 206 (l.map Early.c))), (3, .one (.row 7 (l.map Early.c).length 138)), (4, .one (.i .i64 x))], [(7, mix [AV.i .i64 0, .i .u8 0] (l.map Early.c).length (l.map Early.c) x)], [(1, 0)], [7], [1]⟩, fun x => l.length - x, 0, fun x => ?_, ?_, ⟨(by repeat' (first | exact trivial | refine ⟨rfl, ?_⟩)), ⟨?_, (by repeat' (first | exact trivial | refine ⟨rfl, ?_⟩))⟩, (by repeat' (first | exact trivial | refine ⟨rfl, ?_⟩))⟩, ?_⟩
  · exact pat_row rfl (mix_pat hb2 hz) rfl
  · show 0 ≤ l.length; omega
  · show alignL (rep0 [AV.i .i64 0, .i .u8 0] (l.map Early.c).length) _ = _
    rw [← mix_zero _ _ (l.map Early.c)]; exact mix_align hb2 hz
  rintro k hk
  (conv => whnf); split <;> rename_i h4 <;> simp only [decide_eq_true_eq, decide_eq_false_iff_not] at h4
  case h_2 =>
    (conv => whnf)
    have hke : k = (l.map Early.c).length := by omega
    subst hke
    refine retRowN (by rfl) (by rfl) (by rfl) (by rfl) (by rfl) (by rfl) ?_ ?_ ?_
    · exact mix_len hb1 rfl (Nat.le_refl _)
    · rw [mix_all rfl]
      intro x hx
      obtain ⟨xs, hxs, hx⟩ := List.mem_flatten.1 hx
      exact hnew xs hxs x hx
    · show _ = _
      rw [stripV_self (mix_mem (fun xs hx x hy => (hb2 xs hx x hy).1) fun x hx => (hz x hx).1), mix_all rfl]
      show ({ res := .pv (false, [.nl 138 (chunks 2 (l.map Early.c).length (l.map Early.c).flatten)]) } : Out) = _
      have h := chunks_flatten hb1; simp only [List.length_cons, List.length_nil] at h; rw [h]
  have hlt : k < (l.map Early.c).length := by omega
  obtain ⟨r, hr⟩ := get k hlt
  (conv => whnf)
  refine goIdx r.c (by omega) rfl (by simpa using hr) ?_
  (conv => whnf); refine goP (toEarly_ok r) ?_
  (conv => whnf)
  refine ⟨⟨by omega, by omega⟩, ?_⟩
  (conv => whnf)
  refine goIf ?_ ?_
  · show (true && Nat.ble (k * 2 + 2) (mix [AV.i .i64 0, .i .u8 0] (l.map Early.c).length (l.map Early.c) k).length && true) = true
    rw [mix_len hb1 rfl (by omega)]; simp; omega
  (conv => whnf)
  rw [forceL_eq]
  (conv => whnf)
  refine goW (by omega) (by omega) ?_
  (conv => whnf)
  refine ⟨k + 1, ?_, ⟨(by repeat' (first | exact trivial | refine ⟨rfl, ?_⟩)), ⟨?_, (by repeat' (first | exact trivial | refine ⟨rfl, ?_⟩))⟩, (by repeat' (first | exact trivial | refine ⟨rfl, ?_⟩))⟩, ?_⟩
  · show k + 1 ≤ l.length; omega
  · show alignL (lay (mix [AV.i .i64 0, .i .u8 0] (l.map Early.c).length (l.map Early.c) k) (k * 2) r.c) _ = _
    rw [show lay (mix [AV.i .i64 0, .i .u8 0] (l.map Early.c).length (l.map Early.c) k) (k * 2) r.c = _ from mix_lay hb1 rfl hr]; exact mix_align hb2 hz
  · show l.length - (k + 1) < l.length - k; omega
theorem toWatchS_okN (l : List (Watch)) (hl : l.length ≤ 1100000)  : Pure 56 [(false, [.lst 0 0 72 (l.map Watch.c)])] (.pv (false, [.nl 24 (l.map Watch.c)])) := by
  have hb : ∀ xs ∈ l.map Watch.c, xs.length = ([AV.i .i64 0, .i .i64 0]).length ∧ flat xs := by
    intro xs hx
    obtain ⟨r, _, rfl⟩ := List.mem_map.1 hx
    exact ⟨rfl, flat_of rfl⟩
  have hb1 : ∀ xs ∈ l.map Watch.c, xs.length = ([AV.i .i64 0, .i .i64 0]).length := fun xs hx => (hb xs hx).1
  have hb2 : ∀ xs ∈ l.map Watch.c, flat xs := fun xs hx => (hb xs hx).2
  have hz : flat [AV.i .i64 0, .i .i64 0] := flat_of rfl
  have hbl : (l.map Watch.c).length = l.length := by simp
  have hbl1 : (l.map Watch.c).length = l.length := by simp
  have hnew : ∀ xs ∈ l.map Watch.c, ∀ x ∈ xs, newA tab x = true := by
    intro xs hx
    obtain ⟨r, _, rfl⟩ := List.mem_map.1 hx
    exact List.all_eq_true.1 (show (Watch.c r).all (newA tab) = true from rfl)
  refine fn_of_vc tab_ok mixed Try.call56 Try.func56 rfl [] _ _ (by kernel_rfl) rfl rfl rfl ?_
  (conv => whnf)
  refine ⟨rfl, ?_, ?_, ?_, ?_⟩
  · omega
  · show ((l.map Watch.c).length : Int) * 16 ≤ _; omega
  · show ((l.map Watch.c).length : Int) ≤ _; omega
  rw [show (l.map Watch.c).length = (l.map Watch.c).length by simp]
  (conv => whnf)
  rw [forceL_eq]
  (conv => whnf)
  refine ⟨Nat, fun x => x ≤ l.length, fun x => ⟨[(0, .one (.lst 0 0 72 (l.map Watch.c))), (3, .one (.row 7 (l.map Watch.c).length 24)), (4, .one (.i .i64 x))], [(7, mix [AV.i .i64 0, .i .i64 0] (l.map Watch.c).length (l.map Watch.c) x)], [(1, 0)], [7], [1]⟩, fun x => l.length - x, 0, fun x => ?_, ?_, ⟨(by repeat' (first | exact trivial | refine ⟨rfl, ?_⟩)), ⟨?_, (by repeat' (first | exact trivial | refine ⟨rfl, ?_⟩))⟩, (by repeat' (first | exact trivial | refine ⟨rfl, ?_⟩))⟩, ?_⟩
  · exact pat_row rfl (mix_pat hb2 hz) rfl
  · show 0 ≤ l.length; omega
  · show alignL (rep0 [AV.i .i64 0, .i .i64 0] (l.map Watch.c).length) _ = _
    rw [mix_zero]; exact rep0_align [AV.i .i64 0, .i .i64 0] _
  rintro k hk
  (conv => whnf); split <;> rename_i h4 <;> simp only [decide_eq_true_eq, decide_eq_false_iff_not] at h4
  case h_2 =>
    (conv => whnf)
    have hke : k = (l.map Watch.c).length := by omega
    subst hke
    refine retRowN (by rfl) (by rfl) (by rfl) (by rfl) (by rfl) (by rfl) ?_ ?_ ?_
    · exact mix_len hb1 rfl (Nat.le_refl _)
    · rw [mix_all rfl]
      intro x hx
      obtain ⟨xs, hxs, hx⟩ := List.mem_flatten.1 hx
      exact hnew xs hxs x hx
    · show _ = _
      rw [stripV_self (mix_mem (fun xs hx x hy => (hb2 xs hx x hy).1) fun x hx => (hz x hx).1), mix_all rfl]
      show ({ res := .pv (false, [.nl 24 (chunks 2 (l.map Watch.c).length (l.map Watch.c).flatten)]) } : Out) = _
      have h := chunks_flatten hb1; simp only [List.length_cons, List.length_nil] at h; rw [h]
  have hlt : k < l.length := by omega
  obtain ⟨hr1, hm⟩ := get_map Watch.c l k hlt
  obtain ⟨hr, _⟩ := get_map Watch.c l k hlt
  generalize l[k] = r at hr1 hr hm
  (conv => whnf)
  refine goIdx (Watch.c r) (by omega) rfl (by simpa using hr1) ?_
  (conv => whnf); refine goP (toWatch_ok r) ?_
  (conv => whnf)
  refine ⟨⟨by omega, by omega⟩, ?_⟩
  (conv => whnf)
  refine goIf ?_ ?_
  · show (true && Nat.ble (k * 2 + 2) (mix [AV.i .i64 0, .i .i64 0] (l.map Watch.c).length (l.map Watch.c) k).length && true) = true
    rw [mix_len hb1 rfl (by omega)]; simp; omega
  (conv => whnf)
  rw [forceL_eq]
  (conv => whnf)
  refine goW (by omega) (by omega) ?_
  (conv => whnf)
  refine ⟨k + 1, ?_, ⟨(by repeat' (first | exact trivial | refine ⟨rfl, ?_⟩)), ⟨?_, (by repeat' (first | exact trivial | refine ⟨rfl, ?_⟩))⟩, (by repeat' (first | exact trivial | refine ⟨rfl, ?_⟩))⟩, ?_⟩
  · show k + 1 ≤ l.length; omega
  · show alignL (lay (mix [AV.i .i64 0, .i .i64 0] (l.map Watch.c).length (l.map Watch.c) k) (k * 2) (Watch.c r)) _ = _
    rw [show lay (mix [AV.i .i64 0, .i .i64 0] (l.map Watch.c).length (l.map Watch.c) k) (k * 2) (Watch.c r) = _ from mix_lay hb1 rfl hr]; exact mix_align hb2 hz
  · show l.length - (k + 1) < l.length - k; omega
/-- The cells of a mouth, an ear, an end, new with all that they lead to. -/
def Mouth.cN (e : Mouth) : List AV := [.i .i64 e.heard, .nl 5 (bytes e.keep), .i .i64 e.sent, .i .i64 e.room, .nl 108 (e.early.map Rng.c)]
def Ear.cN (e : Ear) : List AV := [.i .i64 e.next, .i .i64 e.room, .nl 5 (bytes e.got), .nl 138 (e.far.map Early.c)]
def End.cN (e : End) : List AV := [.i .i64 e.state, .i .i64 e.addr, .i .i64 e.n, .i .i64 e.peerAddr, .i .i64 e.peerN, .i .i64 e.base,
  .i .i64 e.out.heard, .nl 5 (bytes e.out.keep), .i .i64 e.out.sent, .i .i64 e.out.room, .nl 108 (e.out.early.map Rng.c),
  .i .i64 e.inn.next, .i .i64 e.inn.room, .nl 5 (bytes e.inn.got), .nl 138 (e.inn.far.map Early.c),
  .b e.closed, .b e.lastTold, .b e.lastHeard, .i .i64 e.peerLast, .i .i64 e.due, .i .i64 e.tries, .i .i64 e.pulse.mean, .i .i64 e.pulse.far, .i .i64 e.pulse.wait]
theorem toMouth_okN (e : Mouth) (h1 : e.keep.length ≤ 1100000) (h2 : e.early.length ≤ 1100000) : Pure 72 [(true, e.cL)] (.pv (true, e.cN)) := by
  refine fn_of_vc tab_ok mixed Try.call72 Try.func72 rfl [] _ _ (by kernel_rfl) rfl rfl rfl ?_
  (conv => whnf); refine goP (toByteS_okN e.keep h1) ?_
  (conv => whnf); refine goP (toRangeS_okN e.early h2) ?_
  (conv => whnf); exact ret1N (by rfl) (by rfl) (by rfl)
theorem toEar_okN (e : Ear) (h1 : e.got.length ≤ 1100000) (h2 : e.far.length ≤ 1100000) : Pure 113 [(true, e.cL)] (.pv (true, e.cN)) := by
  refine fn_of_vc tab_ok mixed Try.call113 Try.func113 rfl [] _ _ (by kernel_rfl) rfl rfl rfl ?_
  (conv => whnf); refine goP (toByteS_okN e.got h1) ?_
  (conv => whnf); refine goP (toEarlyS_okN e.far h2) ?_
  (conv => whnf); exact ret1N (by rfl) (by rfl) (by rfl)
theorem toEnd_okN (e : End) (hs : e.small) : Pure 43 [(true, e.cL)] (.pv (true, e.cN)) := by
  obtain ⟨h1, h2, h3, h4⟩ := hs
  refine fn_of_vc tab_ok mixed Try.call43 Try.func43 rfl [] _ _ (by kernel_rfl) rfl rfl rfl ?_
  (conv => whnf); refine goP (toMouth_okN e.out (by omega) (by omega)) ?_
  (conv => whnf); refine goP (toEar_okN e.inn (by omega) (by omega)) ?_
  (conv => whnf); refine goP (toClock_ok e.pulse) ?_
  (conv => whnf); exact ret1N (by rfl) (by rfl) (by rfl)
/-- An element that is new, or without lists. -/
def flatN (xs : List AV) : Prop := ∀ x ∈ xs, alignA x x = x ∧ ∀ ub ut, patA ub ut x = true
theorem flatN_of {xs : List AV} (h : xs.all (fun x => match x with | .lst 0 0 _ _ => true | .nl _ _ => true | .i _ _ => true | .b _ => true | _ => false) = true) : flatN xs := by
  intro x hx
  have := List.all_eq_true.1 h x hx
  split at this
  · exact ⟨rfl, fun _ _ => rfl⟩
  · exact ⟨rfl, fun _ _ => rfl⟩
  · exact ⟨rfl, fun _ _ => rfl⟩
  · exact ⟨rfl, fun _ _ => rfl⟩
  · cases this
theorem alignL_selfN : ∀ {xs : List AV}, (∀ x ∈ xs, alignA x x = x) → alignL xs xs = xs
  | [], _ => rfl
  | x :: xs, h => by
    simp only [alignL]
    rw [alignL_selfN fun y hy => h y (by simp [hy]), h x (by simp)]
theorem mix_patN {z : List AV} {n : Nat} {es : List (List AV)} {k : Nat} {ub ut : List Nat} (h1 : ∀ xs ∈ es, flatN xs) (h2 : flatN z) : (mix z n es k).all (patA ub ut) = true :=
  List.all_eq_true.2 (mix_mem (fun xs hx x hy => (h1 xs hx x hy).2 _ _) fun x hx => (h2 x hx).2 _ _)
theorem mix_alignN {z : List AV} {n : Nat} {es : List (List AV)} {k : Nat} (h1 : ∀ xs ∈ es, flatN xs) (h2 : flatN z) : alignL (mix z n es k) (mix z n es k) = mix z n es k :=
  alignL_selfN (mix_mem (fun xs hx x hy => (h1 xs hx x hy).1) fun x hx => (h2 x hx).1)
theorem strip_cN (l : List End) : stripV (l.map End.cN).flatten = (l.map End.c).flatten := by
  induction l with
  | nil => rfl
  | cons e l ih => simp only [List.map_cons, List.flatten_cons]; rw [← ih]; unfold stripV; rw [List.map_append]; rfl
theorem toEndS_okN (l : List (End)) (hl : l.length ≤ 1100000) (hs : ∀ e ∈ l, e.small) : Pure 57 [(false, [.lst 0 0 68 (l.map End.cL)])] (.pv (false, [.nl 34 (l.map End.c)])) := by
  have hb : ∀ xs ∈ l.map End.cN, xs.length = ([AV.i .i64 0, .i .i64 0, .i .i64 0, .i .i64 0, .i .i64 0, .i .i64 0, .i .i64 0, .lst 0 0 5 [], .i .i64 0, .i .i64 0, .lst 0 0 108 [], .i .i64 0, .i .i64 0, .lst 0 0 5 [], .lst 0 0 138 [], .b false, .b false, .b false, .i .i64 0, .i .i64 0, .i .i64 0, .i .i64 0, .i .i64 0, .i .i64 0]).length ∧ flatN xs := by
    intro xs hx
    obtain ⟨r, _, rfl⟩ := List.mem_map.1 hx
    exact ⟨rfl, flatN_of rfl⟩
  have hb1 : ∀ xs ∈ l.map End.cN, xs.length = ([AV.i .i64 0, .i .i64 0, .i .i64 0, .i .i64 0, .i .i64 0, .i .i64 0, .i .i64 0, .lst 0 0 5 [], .i .i64 0, .i .i64 0, .lst 0 0 108 [], .i .i64 0, .i .i64 0, .lst 0 0 5 [], .lst 0 0 138 [], .b false, .b false, .b false, .i .i64 0, .i .i64 0, .i .i64 0, .i .i64 0, .i .i64 0, .i .i64 0]).length := fun xs hx => (hb xs hx).1
  have hb2 : ∀ xs ∈ l.map End.cN, flatN xs := fun xs hx => (hb xs hx).2
  have hz : flatN [AV.i .i64 0, .i .i64 0, .i .i64 0, .i .i64 0, .i .i64 0, .i .i64 0, .i .i64 0, .lst 0 0 5 [], .i .i64 0, .i .i64 0, .lst 0 0 108 [], .i .i64 0, .i .i64 0, .lst 0 0 5 [], .lst 0 0 138 [], .b false, .b false, .b false, .i .i64 0, .i .i64 0, .i .i64 0, .i .i64 0, .i .i64 0, .i .i64 0] := flatN_of rfl
  have hbl : (l.map End.cN).length = l.length := by simp
  have hbl1 : (l.map End.cL).length = l.length := by simp
  have hnew : ∀ xs ∈ l.map End.cN, ∀ x ∈ xs, newA tab x = true := by
    intro xs hx
    obtain ⟨r, _, rfl⟩ := List.mem_map.1 hx
    exact List.all_eq_true.1 (show (End.cN r).all (newA tab) = true from rfl)
  refine fn_of_vc tab_ok mixed Try.call57 Try.func57 rfl [] _ _ (by kernel_rfl) rfl rfl rfl ?_
  (conv => whnf)
  refine ⟨rfl, ?_, ?_, ?_, ?_⟩
  · omega
  · show ((l.map End.cL).length : Int) * 240 ≤ _; omega
  · show ((l.map End.cL).length : Int) ≤ _; omega
  rw [show (l.map End.cL).length = (l.map End.cN).length by simp]
  (conv => whnf)
  rw [forceL_eq]
  (conv => whnf)
  refine ⟨Nat, fun x => x ≤ l.length, fun x => ⟨[(0, .one (.lst 0 0 68 (l.map End.cL))), (3, .one (.row 7 (l.map End.cN).length 34)), (4, .one (.i .i64 x))], [(7, mix [AV.i .i64 0, .i .i64 0, .i .i64 0, .i .i64 0, .i .i64 0, .i .i64 0, .i .i64 0, .lst 0 0 5 [], .i .i64 0, .i .i64 0, .lst 0 0 108 [], .i .i64 0, .i .i64 0, .lst 0 0 5 [], .lst 0 0 138 [], .b false, .b false, .b false, .i .i64 0, .i .i64 0, .i .i64 0, .i .i64 0, .i .i64 0, .i .i64 0] (l.map End.cN).length (l.map End.cN) x)], [(1, 0)], [7], [1]⟩, fun x => l.length - x, 0, fun x => ?_, ?_, ⟨(by repeat' (first | exact trivial | refine ⟨rfl, ?_⟩)), ⟨?_, (by repeat' (first | exact trivial | refine ⟨rfl, ?_⟩))⟩, (by repeat' (first | exact trivial | refine ⟨rfl, ?_⟩))⟩, ?_⟩
  · exact pat_row rfl (mix_patN hb2 hz) rfl
  · show 0 ≤ l.length; omega
  · show alignL (rep0 [AV.i .i64 0, .i .i64 0, .i .i64 0, .i .i64 0, .i .i64 0, .i .i64 0, .i .i64 0, .lst 1 0 5 [], .i .i64 0, .i .i64 0, .lst 1 0 108 [], .i .i64 0, .i .i64 0, .lst 1 0 5 [], .lst 1 0 138 [], .b false, .b false, .b false, .i .i64 0, .i .i64 0, .i .i64 0, .i .i64 0, .i .i64 0, .i .i64 0] (l.map End.cN).length) _ = _
    rw [mix_zero]; exact rep0_align [AV.i .i64 0, .i .i64 0, .i .i64 0, .i .i64 0, .i .i64 0, .i .i64 0, .i .i64 0, .lst 1 0 5 [], .i .i64 0, .i .i64 0, .lst 1 0 108 [], .i .i64 0, .i .i64 0, .lst 1 0 5 [], .lst 1 0 138 [], .b false, .b false, .b false, .i .i64 0, .i .i64 0, .i .i64 0, .i .i64 0, .i .i64 0, .i .i64 0] _
  rintro k hk
  (conv => whnf); split <;> rename_i h4 <;> simp only [decide_eq_true_eq, decide_eq_false_iff_not] at h4
  case h_2 =>
    (conv => whnf)
    have hke : k = (l.map End.cN).length := by omega
    subst hke
    refine retRowN (by rfl) (by rfl) (by rfl) (by rfl) (by rfl) (by rfl) ?_ ?_ ?_
    · exact mix_len hb1 rfl (Nat.le_refl _)
    · rw [mix_all rfl]
      intro x hx
      obtain ⟨xs, hxs, hx⟩ := List.mem_flatten.1 hx
      exact hnew xs hxs x hx
    · show _ = _
      rw [mix_all rfl, strip_cN]
      show ({ res := .pv (false, [.nl 34 (chunks 24 (l.map End.cN).length (l.map End.c).flatten)]) } : Out) = _
      have h := chunks_flatten (sz := 24) (es := l.map End.c) fun xs hx => by obtain ⟨r, _, rfl⟩ := List.mem_map.1 hx; rfl
      rw [List.length_map] at h ⊢
      rw [h]
  have hlt : k < l.length := by omega
  obtain ⟨hr1, hm⟩ := get_map End.cL l k hlt
  obtain ⟨hr, _⟩ := get_map End.cN l k hlt
  generalize l[k] = r at hr1 hr hm
  (conv => whnf)
  refine goIdx (End.cL r) (by omega) rfl (by simpa using hr1) ?_
  (conv => whnf); refine goP (toEnd_okN r (hs r hm)) ?_
  (conv => whnf)
  refine ⟨⟨by omega, by omega⟩, ?_⟩
  (conv => whnf)
  refine goIf ?_ ?_
  · show (true && Nat.ble (k * 24 + 24) (mix [AV.i .i64 0, .i .i64 0, .i .i64 0, .i .i64 0, .i .i64 0, .i .i64 0, .i .i64 0, .lst 0 0 5 [], .i .i64 0, .i .i64 0, .lst 0 0 108 [], .i .i64 0, .i .i64 0, .lst 0 0 5 [], .lst 0 0 138 [], .b false, .b false, .b false, .i .i64 0, .i .i64 0, .i .i64 0, .i .i64 0, .i .i64 0, .i .i64 0] (l.map End.cN).length (l.map End.cN) k).length && true) = true
    rw [mix_len hb1 rfl (by omega)]; simp; omega
  (conv => whnf)
  rw [forceL_eq]
  (conv => whnf)
  refine goW (by omega) (by omega) ?_
  (conv => whnf)
  refine ⟨k + 1, ?_, ⟨(by repeat' (first | exact trivial | refine ⟨rfl, ?_⟩)), ⟨?_, (by repeat' (first | exact trivial | refine ⟨rfl, ?_⟩))⟩, (by repeat' (first | exact trivial | refine ⟨rfl, ?_⟩))⟩, ?_⟩
  · show k + 1 ≤ l.length; omega
  · show alignL (lay (mix [AV.i .i64 0, .i .i64 0, .i .i64 0, .i .i64 0, .i .i64 0, .i .i64 0, .i .i64 0, .lst 0 0 5 [], .i .i64 0, .i .i64 0, .lst 0 0 108 [], .i .i64 0, .i .i64 0, .lst 0 0 5 [], .lst 0 0 138 [], .b false, .b false, .b false, .i .i64 0, .i .i64 0, .i .i64 0, .i .i64 0, .i .i64 0, .i .i64 0] (l.map End.cN).length (l.map End.cN) k) (k * 24) (End.cN r)) _ = _
    rw [show lay (mix [AV.i .i64 0, .i .i64 0, .i .i64 0, .i .i64 0, .i .i64 0, .i .i64 0, .i .i64 0, .lst 0 0 5 [], .i .i64 0, .i .i64 0, .lst 0 0 108 [], .i .i64 0, .i .i64 0, .lst 0 0 5 [], .lst 0 0 138 [], .b false, .b false, .b false, .i .i64 0, .i .i64 0, .i .i64 0, .i .i64 0, .i .i64 0, .i .i64 0] (l.map End.cN).length (l.map End.cN) k) (k * 24) (End.cN r) = _ from mix_lay hb1 rfl hr]; exact mix_alignN hb2 hz
  · show l.length - (k + 1) < l.length - k; omega
end Go.Proofs.Ytpeejmolbmhjjaa.Sx
end
