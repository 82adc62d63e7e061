/- Texts of the claim, in few files: what the functions of the program come to; there is no condition beyond those each statement names. -/
import Derived.Test.YtpeejmolbmhjjaaBE2
section
namespace Go.Proofs.Ytpeejmolbmhjjaa.Sx
set_option linter.unusedSimpArgs false
set_option linter.unusedVariables false
open Go
set_option maxRecDepth 100000
set_option maxHeartbeats 0
def ic (n : Int) : List AV := [.i .i64 n]
abbrev ints (l : List Int) : PV := (false, [.lst 0 0 3 (l.map ic)])
abbrev wts (l : List Watch) : PV := (false, [.lst 0 0 24 (l.map Watch.c)])
abbrev ens (l : List End) : PV := (false, [.lst 0 0 34 (l.map End.c)])
instance : Inhabited Watch := ⟨⟨0, 0⟩⟩
instance : Inhabited End := ⟨zeroEnd⟩
def wat (l : List Watch) (k : Nat) : Watch := l.getD k default
def eat (l : List End) (k : Nat) : End := l.getD k default
def iat (l : List Int) (k : Nat) : Int := l.getD k 0
theorem wat_get {l : List Watch} {k : Nat} (h : k < l.length) : (l.map Watch.c)[k]? = some (wat l k).c := by
  simp [List.getElem?_map, wat, List.getD, List.getElem?_eq_getElem h]
theorem eat_get {l : List End} {k : Nat} (h : k < l.length) : (l.map End.c)[k]? = some (eat l k).c := by
  simp [List.getElem?_map, eat, List.getD, List.getElem?_eq_getElem h]
theorem iat_get {l : List Int} {k : Nat} (h : k < l.length) : (l.map ic)[k]? = some (ic (iat l k)) := by
  simp [List.getElem?_map, iat, List.getD, List.getElem?_eq_getElem h]
theorem eat_mem {l : List End} {k : Nat} (h : k < l.length) : eat l k ∈ l := by
  simp [eat, List.getD, List.getElem?_eq_getElem h]
/-- The numbers of the ends that tell something, from the k-th on. -/
def allW : Nat → List Watch → List End → List Int
  | k, w :: ws, e :: es => if 0 < w.level e then (k : Int) :: allW (k + 1) ws es else allW (k + 1) ws es
  | _, _, _ => []
theorem allW_step {ws : List Watch} {es : List End} {k : Nat} (h1 : k < ws.length) (h2 : k < es.length) :
    allW k (ws.drop k) (es.drop k) = if 0 < (wat ws k).level (eat es k) then (k : Int) :: allW (k + 1) (ws.drop (k + 1)) (es.drop (k + 1)) else allW (k + 1) (ws.drop (k + 1)) (es.drop (k + 1)) := by
  rw [List.drop_eq_getElem_cons h1, List.drop_eq_getElem_cons h2]
  simp [allW, wat, eat, List.getD, List.getElem?_eq_getElem h1, List.getElem?_eq_getElem h2]
theorem allW_len : ∀ (k : Nat) (ws : List Watch) (es : List End), (allW k ws es).length ≤ ws.length
  | _, [], _ => by simp [allW]
  | _, _ :: _, [] => by simp [allW]
  | k, w :: ws, e :: es => by
    have := allW_len (k + 1) ws es
    simp only [allW]; split <;> simp <;> omega
theorem allW_ge : ∀ (k : Nat) (ws : List Watch) (es : List End), ∀ x ∈ allW k ws es, (k : Int) ≤ x
  | _, [], _ => by simp [allW]
  | _, _ :: _, [] => by simp [allW]
  | k, w :: ws, e :: es => by
    intro x hx
    have := allW_ge (k + 1) ws es
    simp only [allW] at hx
    split at hx
    · rcases List.mem_cons.1 hx with rfl | hx
      · omega
      · have := this x hx; omega
    · have := this x hx; omega
theorem allW_mem : ∀ (k : Nat) (ws : List Watch) (es : List End) (j : Nat), j < ws.length → j < es.length → (((k + j : Nat) : Int) ∈ allW k ws es ↔ 0 < (wat ws j).level (eat es j))
  | _, [], _, j, h1, h2 => by simp at h1
  | _, _ :: _, [], j, h1, h2 => by simp at h2
  | k, w :: ws, e :: es, 0, h1, h2 => by
    have hg := allW_ge (k + 1) ws es
    simp only [allW]
    show _ ↔ 0 < w.level e
    by_cases h : 0 < w.level e
    · rw [if_pos h]; simp [h]
    · rw [if_neg h]
      exact ⟨fun hh => by have := hg _ hh; omega, fun hh => absurd hh h⟩
  | k, w :: ws, e :: es, j + 1, h1, h2 => by
    have ih := allW_mem (k + 1) ws es j (by simpa using h1) (by simpa using h2)
    have e1 : ((k + (j + 1) : Nat) : Int) = ((k + 1 + j : Nat) : Int) := by omega
    have e2 : wat (w :: ws) (j + 1) = wat ws j := by simp [wat, List.getD]
    have e3 : eat (e :: es) (j + 1) = eat es j := by simp [eat, List.getD]
    rw [e1, e2, e3, ← ih]
    simp only [allW]
    split
    · simp only [List.mem_cons]
      constructor
      · rintro (h | h)
        · omega
        · exact h
      · exact .inr
    · rfl
def allWE (ws : List Watch) (es : List End) : List Int := if ws.length = es.length then allW 0 ws es else []
theorem allWE_len (ws : List Watch) (es : List End) : (allWE ws es).length ≤ ws.length := by
  unfold allWE; split
  · exact allW_len 0 ws es
  · simp
theorem clipI_ok (l : List Int) (hl : l.length < 1000000000) : Pure 145 [ints l] (.pv (ints l)) := by
  refine fn_of_vc tab_ok mixed Try.call145 Try.func145 rfl [] _ _ (by kernel_rfl) rfl rfl rfl ?_
  (conv => whnf)
  refine ⟨rfl, by omega, by omega, ?_⟩
  (conv => whnf)
  refine ret1 (by rfl) (by rfl) ?_
  show ({ res := .pv (false, [AV.lst 0 0 3 _]) } : Out) = _
  simp only [Int.toNat_natCast, List.take_length]
theorem cloneI_ok (l : List Int) (hl : l.length < 1000000000) : Pure 89 [ints l] (.pv (ints l)) := by
  refine fn_of_vc tab_ok mixed Try.call89 Try.func89 rfl [] _ _ (by kernel_rfl) rfl rfl rfl ?_
  (conv => whnf); split <;> rename_i hq
  · (conv => whnf); refine ret1 (by rfl) (by rfl) ?_
    have : l = [] := by simpa using hq
    subst this; rfl
  (conv => whnf)
  refine ⟨by show (0 + (List.map ic l).length) * 8 ≤ 140737488355328; simp; omega, ?_⟩
  (conv => whnf); refine goP (clipI_ok l hl) ?_
  (conv => whnf)
  refine ret1 (by rfl) (by rfl) ?_
  rfl
theorem watchAll_ok (ws : List Watch) (es : List End) (h1 : ws.length < 100000000) (h2 : es.length < 100000000) (hs : ∀ e ∈ es, e.small) : Pure 28 [wts ws, ens es] (.pv (ints (allWE ws es))) := by
  have kw : (ws.map Watch.c).length = ws.length := by simp
  have ke : (es.map End.c).length = es.length := by simp
  refine fn_of_vc tab_ok mixed Try.call28 Try.func28 rfl [] _ _ (by kernel_rfl) rfl rfl rfl ?_
  (conv => whnf); split <;> rename_i hq <;> simp only [decide_eq_true_eq, decide_eq_false_iff_not, Bool.not_eq_eq_eq_not, Bool.not_true, Bool.not_false] at hq
  · (conv => whnf)
    refine ret1 (by rfl) (by rfl) ?_
    rw [allWE, if_neg (by omega)]; rfl
  have hlen : ws.length = es.length := by omega
  (conv => whnf)
  refine ⟨Nat × List Int × List (List AV) × Nat, fun x => x.2.2.1 = x.2.1.map ic ∧ x.1 ≤ ws.length ∧ x.2.1.length ≤ x.1 ∧ x.2.1 ++ allW x.1 (ws.drop x.1) (es.drop x.1) = allW 0 ws es, fun x => ⟨[(1, .one (.lst 0 0 34 (es.map End.c))), (5, .one (.lst 80 x.2.2.2 3 x.2.2.1)), (13, .one (.lst 0 0 24 (ws.map Watch.c))), (14, .one (.i .i64 (ws.map Watch.c).length)), (15, .one (.i .i64 x.1))], [], [(80, x.2.2.2), (1, 0)], [], [80,1]⟩, fun x => ws.length - x.1, (0, [], [], 0), fun x => rfl, ?_, (by refine ⟨?_, ?_, ?_⟩ <;> repeat' (first | exact trivial | refine ⟨rfl, ?_⟩)), ?_⟩
  · exact ⟨rfl, by simp, by simp, by simp⟩
  rintro ⟨k, acc, cs, v⟩ ⟨hcs, hk, ha, hinv⟩
  dsimp only at hcs hk ha hinv
  subst hcs
  have kl : (acc.map ic).length = acc.length := by simp
  (conv => whnf); split <;> rename_i h4 <;> simp only [decide_eq_true_eq, decide_eq_false_iff_not] at h4
  case h_2 =>
    have hke : k = ws.length := by omega
    have hacc : acc = allWE ws es := by
      rw [allWE, if_pos hlen, ← hinv, hke, List.drop_length]; simp [allW]
    subst hacc
    (conv => whnf); refine goP (cloneI_ok _ (by omega)) ?_
    (conv => whnf); refine ret1 (by rfl) (by rfl) ?_
    rfl
  have hlt : k < ws.length := by omega
  rw [allW_step hlt (by omega)] at hinv
  have hlv := level_r (wat ws k) (eat es k)
  (conv => whnf)
  refine goIdx (wat ws k).c (by omega) rfl (by simpa using wat_get hlt) ?_
  (conv => whnf)
  refine ⟨[0, 1, 2, 3, 4, 5, 6], [(0, [7])], (by kernel_rfl), ?_⟩
  (conv => whnf)
  refine goIdx (eat es k).c (by omega) rfl (by simpa using eat_get (hlen ▸ hlt)) ?_
  (conv => whnf); refine goP (watchLevel_ok (wat ws k) (eat es k) (hs _ (eat_mem (hlen ▸ hlt)))) ?_
  (conv => whnf); split <;> rename_i h5 <;> simp only [decide_eq_true_eq, decide_eq_false_iff_not, Bool.not_eq_eq_eq_not, Bool.not_true, Bool.not_false] at h5
  · rw [if_pos (by omega)] at hinv
    (conv => whnf); refine ⟨by show ((acc.map ic).length + 1) * 8 ≤ 140737488355328; omega, rfl, rfl, ?_⟩
    (conv => whnf); refine goW (by omega) (by omega) ?_
    (conv => whnf)
    refine ⟨(k + 1, acc ++ [(k : Int)], acc.map ic ++ [ic k], v + 1), ?_, (by refine ⟨?_, ?_, ?_⟩ <;> repeat' (first | exact trivial | refine ⟨rfl, ?_⟩)), ?_⟩
    · exact ⟨by simp, by dsimp only; omega, by simp; omega, by rw [← hinv]; simp⟩
    · show ws.length - (k + 1) < ws.length - k; omega
  · rw [if_neg (by omega)] at hinv
    (conv => whnf); refine goW (by omega) (by omega) ?_
    (conv => whnf)
    refine ⟨(k + 1, acc, acc.map ic, v), ?_, (by refine ⟨?_, ?_, ?_⟩ <;> repeat' (first | exact trivial | refine ⟨rfl, ?_⟩)), ?_⟩
    · exact ⟨rfl, by dsimp only; omega, by dsimp only; omega, hinv⟩
    · show ws.length - (k + 1) < ws.length - k; omega
theorem watchAll_ok' (ws : List Watch) (es : List End) (h1 : ws.length < 100000000) (h2 : es.length < 100000000) (hs : ∀ e ∈ es, e.small) : Pure 30 [wts ws, ens es] (.pv (ints (allWE ws es))) := by
  have kw : (ws.map Watch.c).length = ws.length := by simp
  have ke : (es.map End.c).length = es.length := by simp
  refine fn_of_vc tab_ok mixed Try.call30 Try.func30 rfl [] _ _ (by kernel_rfl) rfl rfl rfl ?_
  (conv => whnf)
  refine ⟨Nat × List Int × List (List AV) × Nat, fun x => x.2.2.1 = x.2.1.map ic ∧ x.1 ≤ ws.length ∧ x.2.1.length ≤ x.1 ∧ (ws.length = es.length → x.2.1 ++ allW x.1 (ws.drop x.1) (es.drop x.1) = allW 0 ws es) ∧ (ws.length ≠ es.length → x.1 = 0 ∧ x.2.1 = []), fun x => ⟨[(0, .one (.lst 0 0 24 (ws.map Watch.c))), (1, .one (.lst 0 0 34 (es.map End.c))), (5, .one (.lst 112 x.2.2.2 3 x.2.2.1)), (6, .one (.i .i64 x.1))], [], [(112, x.2.2.2), (1, 0)], [], [112,1]⟩, fun x => ws.length - x.1, (0, [], [], 0), fun x => rfl, ?_, (by refine ⟨?_, ?_, ?_⟩ <;> repeat' (first | exact trivial | refine ⟨rfl, ?_⟩)), ?_⟩
  · exact ⟨rfl, by simp, by simp, by simp, fun _ => ⟨rfl, rfl⟩⟩
  rintro ⟨k, acc, cs, v⟩ ⟨hcs, hk, ha, hinv, hne⟩
  dsimp only at hcs hk ha hinv hne
  subst hcs
  have kl : (acc.map ic).length = acc.length := by simp
  have fin : (k = ws.length ∨ ws.length ≠ es.length) → acc = allWE ws es := by
    intro h
    by_cases hlen : ws.length = es.length
    · have hke : k = ws.length := by omega
      rw [allWE, if_pos hlen, ← hinv hlen, hke, List.drop_length]; simp [allW]
    · rw [allWE, if_neg hlen, (hne hlen).2]
  (conv => whnf); split <;> rename_i h4 <;> simp only [decide_eq_true_eq, decide_eq_false_iff_not] at h4
  case h_2 =>
    (conv => whnf); refine ret1 (by rfl) (by rfl) ?_
    rw [← fin (by omega)]; rfl
  (conv => whnf); split <;> rename_i h6 <;> simp only [decide_eq_true_eq, decide_eq_false_iff_not] at h6
  case h_2 =>
    (conv => whnf); refine ret1 (by rfl) (by rfl) ?_
    rw [← fin (by omega)]; rfl
  have hlt : k < ws.length := by omega
  have hlen : ws.length = es.length := by omega
  have hinv := hinv hlen
  rw [allW_step hlt (by omega)] at hinv
  have hlv := level_r (wat ws k) (eat es k)
  (conv => whnf)
  refine ⟨[0, 1, 2, 3, 4, 5, 6, 7, 8, 9], [], (by kernel_rfl), ?_⟩
  (conv => whnf)
  refine goIdx (wat ws k).c (by omega) rfl (by simpa using wat_get hlt) ?_
  (conv => whnf)
  refine goIdx (eat es k).c (by omega) rfl (by simpa using eat_get (hlen ▸ hlt)) ?_
  (conv => whnf); refine goP (watchLevel_ok' (wat ws k) (eat es k) (hs _ (eat_mem (hlen ▸ hlt)))) ?_
  (conv => whnf); split <;> rename_i h5 <;> simp only [decide_eq_true_eq, decide_eq_false_iff_not] at h5
  · rw [if_pos (by omega)] at hinv
    (conv => whnf); refine ⟨by show ((acc.map ic).length + 1) * 8 ≤ 140737488355328; omega, rfl, rfl, ?_⟩
    (conv => whnf); refine goW (by omega) (by omega) ?_
    (conv => whnf)
    refine ⟨(k + 1, acc ++ [(k : Int)], acc.map ic ++ [ic k], v + 1), ?_, (by refine ⟨?_, ?_, ?_⟩ <;> repeat' (first | exact trivial | refine ⟨rfl, ?_⟩)), ?_⟩
    · exact ⟨by simp, by dsimp only; omega, by simp; omega, fun _ => by rw [← hinv]; simp, fun h => absurd hlen h⟩
    · show ws.length - (k + 1) < ws.length - k; omega
  · rw [if_neg (by omega)] at hinv
    (conv => whnf); refine goW (by omega) (by omega) ?_
    (conv => whnf)
    refine ⟨(k + 1, acc, acc.map ic, v), ?_, (by refine ⟨?_, ?_, ?_⟩ <;> repeat' (first | exact trivial | refine ⟨rfl, ?_⟩)), ?_⟩
    · exact ⟨rfl, by dsimp only; omega, by dsimp only; omega, fun _ => hinv, fun h => absurd hlen h⟩
    · show ws.length - (k + 1) < ws.length - k; omega
theorem sameInts_ok (l : List Int) (hl : l.length ≤ 100000000) : Pure 29 [ints l, ints l] (.pv (bool true)) := by
  have hll : (l.map ic).length = l.length := by simp
  refine fn_of_vc tab_ok mixed Try.call29 Try.func29 rfl [] _ _ (by kernel_rfl) rfl rfl rfl ?_
  (conv => whnf); split <;> rename_i hq
  · simp at hq
  (conv => whnf)
  refine ⟨Nat, fun x => x ≤ l.length, fun x => ⟨[(0, .one (.lst 0 0 3 (l.map ic))), (1, .one (.lst 0 0 3 (l.map ic))), (5, .one (.i .i64 x))], [], [(1, 0)], [], [1]⟩, fun x => l.length - x, 0, fun x => rfl, ?_, (by refine ⟨?_, ?_, ?_⟩ <;> repeat' (first | exact trivial | refine ⟨rfl, ?_⟩)), ?_⟩
  · show 0 ≤ l.length; omega
  rintro k hk
  (conv => whnf); split <;> rename_i h4 <;> simp only [decide_eq_true_eq, decide_eq_false_iff_not] at h4
  case h_2 =>
    (conv => whnf); exact ret1 (by rfl) (by rfl) (by rfl)
  have hlt : k < l.length := by omega
  (conv => whnf)
  refine ⟨[0, 1, 2, 3, 4, 5, 6, 7, 8], [], (by kernel_rfl), ?_⟩
  (conv => whnf)
  refine goIdx (ic (iat l k)) (by omega) rfl (by simpa using iat_get hlt) ?_
  (conv => whnf)
  refine goIdx (ic (iat l k)) (by omega) rfl (by simpa using iat_get hlt) ?_
  (conv => whnf); split <;> rename_i hq2
  · simp at hq2
  (conv => whnf)
  refine goW (by omega) (by omega) ?_
  (conv => whnf)
  refine ⟨k + 1, ?_, (by refine ⟨?_, ?_, ?_⟩ <;> repeat' (first | exact trivial | refine ⟨rfl, ?_⟩)), ?_⟩
  · show k + 1 ≤ l.length; omega
  · show l.length - (k + 1) < l.length - k; omega
theorem hasInt_ok (l : List Int) (n : Int) (hl : l.length ≤ 100000000) : Pure 31 [ints l, int n] (.pv (bool (decide (n ∈ l)))) := by
  have hll : (l.map ic).length = l.length := by simp
  refine fn_of_vc tab_ok mixed Try.call31 Try.func31 rfl [] _ _ (by kernel_rfl) rfl rfl rfl ?_
  (conv => whnf)
  refine ⟨Nat, fun x => x ≤ l.length ∧ ∀ j, j < x → iat l j ≠ n, fun x => ⟨[(0, .one (.lst 0 0 3 (l.map ic))), (1, .one (.i .i64 n)), (5, .one (.i .i64 x))], [], [(1, 0)], [], [1]⟩, fun x => l.length - x, 0, fun x => rfl, ?_, (by refine ⟨?_, ?_, ?_⟩ <;> repeat' (first | exact trivial | refine ⟨rfl, ?_⟩)), ?_⟩
  · exact ⟨by omega, fun j hj => by omega⟩
  rintro k ⟨hk, hj⟩
  (conv => whnf); split <;> rename_i h4 <;> simp only [decide_eq_true_eq, decide_eq_false_iff_not] at h4
  case h_2 =>
    (conv => whnf); refine ret1 (by rfl) (by rfl) (outB ?_)
    symm; apply decide_eq_false
    intro hm
    obtain ⟨j, hj1, hj2⟩ := List.getElem_of_mem hm
    have := hj j (by omega)
    simp [iat, List.getD, List.getElem?_eq_getElem hj1, hj2] at this
  have hlt : k < l.length := by omega
  (conv => whnf)
  refine goIdx (ic (iat l k)) (by omega) rfl (by simpa using iat_get hlt) ?_
  (conv => whnf); split <;> rename_i hq2 <;> simp only [decide_eq_true_eq, decide_eq_false_iff_not] at hq2
  · (conv => whnf); refine ret1 (by rfl) (by rfl) (outB ?_)
    symm; apply decide_eq_true
    rw [← hq2]
    simp [iat, List.getD, List.getElem?_eq_getElem hlt]
  (conv => whnf)
  refine goW (by omega) (by omega) ?_
  (conv => whnf)
  refine ⟨k + 1, ?_, (by refine ⟨?_, ?_, ?_⟩ <;> repeat' (first | exact trivial | refine ⟨rfl, ?_⟩)), ?_⟩
  · refine ⟨by omega, fun j hj2 => ?_⟩
    by_cases hjk : j = k
    · subst hjk; exact hq2
    · exact hj j (by omega)
  · show l.length - (k + 1) < l.length - k; omega
end Go.Proofs.Ytpeejmolbmhjjaa.Sx
end

section
namespace Go.Proofs.Ytpeejmolbmhjjaa.Sx
set_option linter.unusedSimpArgs false
set_option linter.unusedVariables false
open Go
set_option maxRecDepth 100000
set_option maxHeartbeats 0
theorem goEnds {b : Nat} {l : List Int} {p : Int} {M : Nat → Option (List AV)} {ok : Nat → Bool} {K : List (Nat × List AV) → Out → Prop} (hl : okB l) (hm : memIs M ok [(b, rd l p)]) (hp : 0 ≤ p ∧ p < 400000000000)
    (hk : ∀ (p' : Int) (e1 e2 : End) (l8 l9 : List Seg), p ≤ p' → p' ≤ p + 40000 → e1.wk → e2.wk → K [(b, rd l p)] { mem := [rd l p'], res := .tup [e1.v, e2.v, sgs l8, sgs l9] }) :
    ∃ (m : List (Nat × List AV)) (R : Out → Prop), FnM Try.prog 87 m [(false, [.ptr b 0])] R ∧ memIs M ok m ∧ ∀ o, R o → (o.tk.all fun x => Nat.ble 2 x.1 && Nat.blt x.1 9) = true → K m o :=
  ⟨[(b, rd l p)], _, (ends_r hl p hp).ren (by decide) rfl rfl (by rintro o ⟨p', e1, e2, l8, l9, _, _, _, rfl⟩; rfl) b, hm, fun o ho _ => by
    obtain ⟨p', e1, e2, l8, l9, h1, h2, h3, rfl⟩ := ho; exact hk p' e1 e2 l8 l9 h1.1 h1.2 h2 h3⟩
theorem drawWatchAll_r {l : List Int} (hl : l.length ≤ 1048576) (h2 : ∀ x ∈ l, 0 ≤ x ∧ x ≤ 255) : Fx 27 [byts l] fun v => ∃ (ws : List Watch) (es : List End), ws.length ≤ 3 ∧ es.length = 3 ∧ (∀ e ∈ es, e.small) ∧ v = .tup [wts ws, ens es] := by
  refine fn_of_vc tab_ok mixed Try.call27 Try.func27 rfl [] _ _ (by kernel_rfl) rfl rfl rfl ?_
  (conv => whnf)
  refine ⟨[], _, open_r hl h2, trivial, ?_⟩
  rintro o ⟨l', hl', rfl⟩ _
  (conv => whnf); refine goEnds hl' (by exact ⟨⟨rfl, rfl⟩, trivial⟩) (by first | omega | (dsimp only; omega) | (simp; omega)) fun p1 e1 e2 l8 l9 h3 h4 h5 h6 => ?_
  (conv => whnf)
  refine ⟨[0, 1, 2, 3, 4], [(0, [5]), (1, [6])], (by kernel_rfl), ?_⟩
  (conv => whnf)
  refine goP (endNew_ok' 1 7 5 9 (by omega)) ?_
  (conv => whnf)
  refine ⟨Nat × Int × List Watch × List (List AV) × Nat, fun x => x.2.2.2.1 = x.2.2.1.map Watch.c ∧ x.2.2.1.length = x.1 ∧ x.1 ≤ 3 ∧ p1 ≤ x.2.1 ∧ x.2.1 ≤ p1 + 4 * x.1, fun x => ⟨[(4, .one (.ptr 13 0)), (9, .one (.lst 0 0 34 [e1.c, e2.c, (theNew 1 7 5 9).c])), (10, .one (.lst 400 x.2.2.2.2 24 x.2.2.2.1)), (11, .one (.i .i64 x.1))], [(13, rd l' x.2.1)], [(400, x.2.2.2.2), (1, 0)], [13], [400,1]⟩, fun x => 3 - x.1, (0, p1, [], [], 0), fun x => rfl, ?_, (by refine ⟨?_, ?_, ?_⟩ <;> repeat' (first | exact trivial | refine ⟨rfl, ?_⟩)), ?_⟩
  · exact ⟨rfl, rfl, by simp, by dsimp only; omega, by dsimp only; omega⟩
  rintro ⟨k, p, ws, cs, v⟩ ⟨hcs, hn, hk, hp1, hp2⟩
  dsimp only at hcs hn hk hp1 hp2
  subst hcs
  have kw : (ws.map Watch.c).length = ws.length := by simp
  (conv => whnf); split <;> rename_i h4 <;> simp only [decide_eq_true_eq, decide_eq_false_iff_not] at h4
  case h_1 =>
    (conv => whnf); refine goWatch hl' (by exact ⟨⟨rfl, rfl⟩, trivial⟩) (by first | omega | (dsimp only; omega) | (simp; omega)) (by first | omega | (dsimp only; omega) | (simp; omega)) fun p2 w h7 h8 => ?_
    dsimp only at h7 h8
    (conv => whnf); refine ⟨by show ((ws.map Watch.c).length + 1) * 16 ≤ 140737488355328; omega, rfl, rfl, ?_⟩
    (conv => whnf); refine goW (by omega) (by omega) ?_
    (conv => whnf)
    refine ⟨(k + 1, p2, ws ++ [w], ws.map Watch.c ++ [w.c], v + 1), ?_, (by refine ⟨?_, ?_, ?_⟩ <;> repeat' (first | exact trivial | refine ⟨rfl, ?_⟩)), ?_⟩
    · exact ⟨by simp, by simp [hn], by dsimp only; omega, by dsimp only; omega, by dsimp only; omega⟩
    · show 3 - (k + 1) < 3 - k; omega
  case h_2 =>
    have hsm : ∀ e ∈ [e1, e2, theNew 1 7 5 9], e.small := by
      intro e he
      simp only [List.mem_cons, List.not_mem_nil, or_false] at he
      rcases he with rfl | rfl | rfl
      · exact h5.small
      · exact h6.small
      · exact theNew_small 1 7 5 9
    (conv => whnf); refine goPick hl' (by exact ⟨⟨rfl, rfl⟩, trivial⟩) (by first | omega | (dsimp only; omega) | (simp; omega)) (by first | omega | (dsimp only; omega) | (simp; omega)) fun i hi1 hi2 => ?_
    rcases (by omega : (0 ≤ i ∧ i < 8) ∨ i = 8) with hi | rfl
    · have hq : i.tdiv 8 = 0 := Int.tdiv_eq_zero_of_lt hi.1 hi.2
      (conv => whnf); refine ⟨by decide, _, w64 _ (by omega) (by omega), ?_⟩
      rw [hq]
      (conv => whnf); refine ⟨3, by decide, ?_⟩
      (conv => whnf); refine ⟨by omega, by show (3 : Int) ≤ ((ws.map Watch.c).length : Int); omega, ?_⟩
      (conv => whnf)
      refine retE (by rfl) (by rfl) ⟨ws, [e1, e2, theNew 1 7 5 9], by omega, rfl, hsm, ?_⟩
      show TV.tup [(false, [AV.lst 0 0 24 (List.take 3 (ws.map Watch.c))]), ens [e1, e2, theNew 1 7 5 9]] = _
      rw [List.take_of_length_le (by omega)]
    · (conv => whnf); refine ⟨by decide, _, rfl, ?_⟩
      (conv => whnf); refine ⟨2, by decide, ?_⟩
      (conv => whnf); refine ⟨by omega, by show (2 : Int) ≤ ((ws.map Watch.c).length : Int); omega, ?_⟩
      (conv => whnf)
      refine retE (by rfl) (by rfl) ⟨ws.take 2, [e1, e2, theNew 1 7 5 9], by simp; omega, rfl, hsm, ?_⟩
      show TV.tup [(false, [AV.lst 0 0 24 (List.take 2 (ws.map Watch.c))]), ens [e1, e2, theNew 1 7 5 9]] = _
      rw [← List.map_take]
theorem law5 (l : List Int) (h2 : ∀ x ∈ l, 0 ≤ x ∧ x ≤ 255) : Pure 5 [byts l] (.pv (bool true)) := by
  refine fn_of_vc tab_ok mixed Try.call5 Try.func5 rfl [] _ _ (by kernel_rfl) rfl rfl rfl ?_
  (conv => whnf); split <;> rename_i hq
  · (conv => whnf); exact ret1 (by rfl) (by rfl) (by rfl)
  have hl : l.length ≤ 1048576 := by simp at hq; omega
  (conv => whnf); refine goE (drawWatchAll_r hl h2) ?_
  rintro _ ⟨ws, es, hw, he, hs, rfl⟩
  have kw : (ws.map Watch.c).length = ws.length := by simp
  have ke : (es.map End.c).length = es.length := by simp
  have kn := allWE_len ws es
  (conv => whnf); refine goP (watchAll_ok ws es (by omega) (by omega) hs) ?_
  (conv => whnf); refine goP (watchAll_ok' ws es (by omega) (by omega) hs) ?_
  (conv => whnf); refine goP (sameInts_ok (allWE ws es) (by omega)) ?_
  (conv => whnf); split <;> rename_i h4 <;> simp only [decide_eq_true_eq, decide_eq_false_iff_not, Bool.not_eq_eq_eq_not, Bool.not_true, Bool.not_false] at h4
  · have hne : ws.length ≠ es.length := by omega
    rw [allWE, if_neg hne]
    (conv => whnf); refine goP alive_ok ?_
    (conv => whnf); exact ret1 (by rfl) (by rfl) (by rfl)
  have hlen : ws.length = es.length := by omega
  (conv => whnf)
  refine ⟨Nat, fun x => x ≤ ws.length, fun x => ⟨[(3, .one (.lst 0 0 24 (ws.map Watch.c))), (4, .one (.lst 0 0 34 (es.map End.c))), (5, .one (.lst 0 0 3 ((allWE ws es).map ic))), (6, .one (.i .i64 x))], [], [(1, 0)], [], [1]⟩, fun x => ws.length - x, 0, fun x => rfl, ?_, (by refine ⟨?_, ?_, ?_⟩ <;> repeat' (first | exact trivial | refine ⟨rfl, ?_⟩)), ?_⟩
  · show 0 ≤ ws.length; omega
  rintro k hk
  (conv => whnf); split <;> rename_i h6 <;> simp only [decide_eq_true_eq, decide_eq_false_iff_not] at h6
  case h_2 =>
    (conv => whnf); refine goP alive_ok ?_
    (conv => whnf); exact ret1 (by rfl) (by rfl) (by rfl)
  have hlt : k < ws.length := by omega
  have hmem := allW_mem 0 ws es k hlt (hlen ▸ hlt)
  have hmem : ((k : Int) ∈ allWE ws es) ↔ 0 < (wat ws k).level (eat es k) := by rw [allWE, if_pos hlen]; simpa using hmem
  (conv => whnf)
  refine ⟨[0, 1, 3, 4, 5, 6, 7, 8, 9, 10, 2, 11, 12, 13], [], (by kernel_rfl), ?_⟩
  (conv => whnf)
  refine goIdx (wat ws k).c (by omega) rfl (by simpa using wat_get hlt) ?_
  (conv => whnf)
  refine goIdx (eat es k).c (by omega) rfl (by simpa using eat_get (hlen ▸ hlt)) ?_
  (conv => whnf); refine goP (hasInt_ok (allWE ws es) (k : Int) (by omega)) ?_
  (conv => whnf); refine goP (watchLevel_ok (wat ws k) (eat es k) (hs _ (eat_mem (hlen ▸ hlt)))) ?_
  rw [show decide ((k : Int) ∈ allWE ws es) = decide (0 < (wat ws k).level (eat es k)) from decide_eq_decide.2 hmem]
  (conv => whnf); split <;> rename_i h7
  · simp at h7
  (conv => whnf); refine goW (by omega) (by omega) ?_
  (conv => whnf)
  refine ⟨k + 1, ?_, (by refine ⟨?_, ?_, ?_⟩ <;> repeat' (first | exact trivial | refine ⟨rfl, ?_⟩)), ?_⟩
  · show k + 1 ≤ ws.length; omega
  · show ws.length - (k + 1) < ws.length - k; omega
end Go.Proofs.Ytpeejmolbmhjjaa.Sx
end
