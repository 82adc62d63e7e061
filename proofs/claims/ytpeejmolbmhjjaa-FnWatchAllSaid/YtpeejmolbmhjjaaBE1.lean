/- Texts of the claim, in few files: what the functions of the program come to; there is no condition beyond those each statement names. -/
import Derived.Test.YtpeejmolbmhjjaaE4
section
namespace Go.Proofs.Ytpeejmolbmhjjaa.Sx
set_option linter.unusedSimpArgs false
set_option linter.unusedVariables false
open Go
set_option maxRecDepth 100000
set_option maxHeartbeats 0
def SegP (p : PV) : Prop := ∃ s : Seg, s.wk ∧ p = s.v
theorem mkSeg {a1 a2 a3 a4 a5 : Int} {b1 b2 b3 b4 : Bool} {r : List Rng} {d : List Int} {p : PV} (h : Seg.wk ⟨a1, a2, a3, a4, a5, b1, b2, b3, b4, r, d⟩)
    (hp : p = (true, [.i .i64 a1, .i .i64 a2, .i .i64 a3, .i .i64 a4, .i .i64 a5, .b b1, .b b2, .b b3, .b b4, .lst 0 0 108 (r.map Rng.c), .lst 0 0 5 (bytes d)])) : SegP p := ⟨_, h, hp⟩
/-- The ranges of a segment that is made: none yet, or a row of its own. -/
def sgL : Nat → Nat → List (List AV) → AV
  | 0, _, _ => .lst 1 0 108 []
  | _ + 1, v, cs => .lst 848 v 108 cs
def sgC : Nat → Nat → List (Nat × Nat)
  | 0, _ => [(1, 0)]
  | _ + 1, v => [(848, v), (1, 0)]
def sgU : Nat → List Nat
  | 0 => [1]
  | _ + 1 => [848, 1]
theorem segment_r (e : End) (at_ : Int) (h : e.wk) : Fx 170 [e.v, int at_] fun v => ∃ p, SegP p ∧ v = .pv p := by
  obtain ⟨w1, w2, w3, w4, w5, w6, w7, w8, w9, w10⟩ := h
  refine fn_of_vc tab_ok mixed Try.call170 Try.func170 rfl [] _ _ (by kernel_rfl) rfl rfl rfl ?_
  (conv => whnf)
  refine ⟨[0, 1, 2, 3, 4, 7, 5, 6, 8], [(1, [2]), (3, [2]), (8, [5])], (by kernel_rfl), ?_⟩
  (conv => whnf)
  refine goE (seqOf_r at_) ?_
  rintro _ ⟨n, hn, rfl⟩
  (conv => whnf); split <;> rename_i h4
  · (conv => whnf)
    (refine retE (by rfl) (by rfl) ⟨_, ?_, rfl⟩; refine mkSeg (r := []) (d := []) ⟨by simp, by simp⟩ rfl)
  (conv => whnf); refine goE (wait_r e (by omega)) ?_
  rintro _ ⟨n2, hn2, rfl⟩
  (conv => whnf); refine goE (seqOf_r n2) ?_
  rintro _ ⟨n3, hn3, rfl⟩
  (conv => whnf); refine goE (earFree_r e.inn (by omega) (by omega)) ?_
  rintro _ ⟨n4, hn4, rfl⟩
  (conv => whnf); refine goE (earRanges_r e.inn (by omega) (by omega)) ?_
  rintro _ ⟨l, hl, rfl⟩
  have hll : (l.map Rng.c).length = l.length := by simp
  (conv => whnf)
  refine ⟨Nat × List Rng × List (List AV) × Nat, fun x => x.2.2.1 = x.2.1.map Rng.c ∧ x.2.1.length = x.1 ∧ x.1 ≤ l.length,
    fun x => ⟨[(4, .one (.ptr 4 0)), (5, .one (.ptr 5 0)), (6, .one (.lst 0 0 108 (l.map Rng.c))), (7, .one (.i .i64 x.1))],
      [(4, [.i .i64 0, .i .i64 0, .i .i64 0, .i .i64 0, .i .i64 0, .b false, .b false, .b false, .b false, .lst 1 0 108 [], .lst 1 0 5 []]),
       (5, [.i .i64 e.n, .i .i64 e.peerN, .i .i64 n, .i .i64 n3, .i .i64 n4, .b false, .b true, .b false, .b false, sgL x.1 x.2.2.2 x.2.2.1, .lst 1 0 5 []])], sgC x.1 x.2.2.2, [4, 5], sgU x.1⟩,
    fun x => l.length - x.1, (0, [], [], 0), fun x => by obtain ⟨x1, x2⟩ := x; cases x1 <;> rfl, ⟨rfl, rfl, by omega⟩, ⟨⟨rfl, rfl, rfl, rfl, trivial⟩, ⟨rfl, rfl, trivial⟩, ⟨rfl, trivial⟩⟩, ?_⟩
  rintro ⟨k, acc, cells, v⟩ ⟨hc, hk, hk2⟩
  dsimp only at hc hk hk2
  subst hc
  have hal : (acc.map Rng.c).length = acc.length := by simp
  have back : ∀ (x : Nat × List Rng × List (List AV) × Nat), True := fun _ => trivial
  cases k with
  | zero =>
    have : acc = [] := List.eq_nil_of_length_eq_zero hk
    subst this
    (conv => whnf); split <;> rename_i h5 <;> simp only [decide_eq_true_eq, decide_eq_false_iff_not] at h5
    case h_2 =>
      (conv => whnf)
      (refine retE (by rfl) (by rfl) ⟨_, ?_, rfl⟩; refine mkSeg (r := []) (d := []) ⟨by simp, by simp⟩ rfl)
    obtain ⟨r, hr⟩ := map_get2 Rng.c l 0 (by simpa using h5)
    (conv => whnf)
    refine ⟨[0, 1, 2, 3, 4, 5, 6, 8, 9, 10, 11, 12, 7, 13, 14, 15, 16, 17, 18], [(1, [5]), (18, [5])], (by kernel_rfl), ?_⟩
    (conv => whnf)
    refine goIdx r.c (by first | omega | (dsimp only; omega) | simp) rfl (by simpa using hr) ?_
    (conv => whnf); refine goIdx r.c (by first | omega | (dsimp only; omega) | simp) rfl (by simpa using hr) ?_
    (conv => whnf); refine goE (seqOf_r _) ?_
    rintro _ ⟨n5, hn5, rfl⟩
    (conv => whnf); refine goE (seqOf_r _) ?_
    rintro _ ⟨n6, hn6, rfl⟩
    (conv => whnf); refine ⟨by show (0 + 1) * 16 ≤ 140737488355328; omega, ?_⟩
    (conv => whnf); refine goW (by first | omega | simp) (by first | omega | simp) ?_
    (conv => whnf)
    refine ⟨(1, [(⟨n5, n6⟩ : Rng)], [[AV.i .i64 n5, AV.i .i64 n6]], 0), ⟨rfl, rfl, by simp at h5; dsimp only; omega⟩, ⟨⟨rfl, rfl, rfl, rfl, trivial⟩, ⟨rfl, rfl, trivial⟩, ⟨rfl, rfl, trivial⟩⟩, ?_⟩
    show l.length - 1 < l.length - 0
    simp at h5; omega
  | succ k =>
    (conv => whnf); split <;> rename_i h5 <;> simp only [decide_eq_true_eq, decide_eq_false_iff_not] at h5
    case h_2 =>
      (conv => whnf)
      (refine retE (by rfl) (by rfl) ⟨_, ?_, rfl⟩; refine mkSeg (r := acc) (d := []) ⟨by dsimp only; omega, by simp⟩ rfl)
    have hlt : k + 1 < (l.map Rng.c).length := by omega
    obtain ⟨r, hr⟩ := map_get2 Rng.c l (k + 1) hlt
    (conv => whnf)
    refine ⟨[0, 1, 2, 3, 4, 5, 6, 8, 9, 10, 11, 12, 7, 13, 14, 15, 16, 17, 18], [(1, [5]), (18, [5])], (by kernel_rfl), ?_⟩
    (conv => whnf)
    refine goIdx r.c (by first | omega | (dsimp only; omega)) rfl (by simpa using hr) ?_
    (conv => whnf); refine goIdx r.c (by first | omega | (dsimp only; omega)) rfl (by simpa using hr) ?_
    (conv => whnf); refine goE (seqOf_r _) ?_
    rintro _ ⟨n5, hn5, rfl⟩
    (conv => whnf); refine goE (seqOf_r _) ?_
    rintro _ ⟨n6, hn6, rfl⟩
    (conv => whnf); refine ⟨by show ((acc.map Rng.c).length + 1) * 16 ≤ 140737488355328; omega, rfl, rfl, ?_⟩
    (conv => whnf); refine goW (by first | omega | (dsimp only; omega)) (by first | omega | (dsimp only; omega)) ?_
    (conv => whnf)
    refine ⟨(k + 1 + 1, acc ++ [(⟨n5, n6⟩ : Rng)], acc.map Rng.c ++ [[AV.i .i64 n5, AV.i .i64 n6]], v + 1), ⟨by simp [Rng.c], by simp; omega, by dsimp only; omega⟩, ⟨⟨rfl, rfl, rfl, rfl, trivial⟩, ⟨rfl, rfl, trivial⟩, ⟨rfl, rfl, trivial⟩⟩, ?_⟩
    show l.length - (k + 1 + 1) < l.length - (k + 1)
    omega
theorem first_r (e : End) (h : e.wk) : Fx 166 [e.v] fun v => ∃ p, SegP p ∧ v = .pv p := by
  refine fn_of_vc tab_ok mixed Try.call166 Try.func166 rfl [] _ _ (by kernel_rfl) rfl rfl rfl ?_
  (conv => whnf); refine goE (segment_r e _ h) ?_
  rintro _ ⟨_, ⟨s, hs, rfl⟩, rfl⟩
  (conv => whnf)
  (refine retE (by rfl) (by rfl) ⟨_, ?_, rfl⟩; refine mkSeg (r := s.ranges) (d := s.data) ?_ rfl; exact ⟨hs.1, hs.2⟩)
theorem last_r (e : End) (h : e.wk) : Fx 173 [e.v] fun v => ∃ p, SegP p ∧ v = .pv p := by
  have hb := bytes_len e.out.keep
  have h1 := h.keep
  have h5 := h.heard
  refine fn_of_vc tab_ok mixed Try.call173 Try.func173 rfl [] _ _ (by kernel_rfl) rfl rfl rfl ?_
  (conv => whnf); refine goW (by omega) (by omega) ?_
  (conv => whnf); refine goE (segment_r e _ h) ?_
  rintro _ ⟨_, ⟨s, hs, rfl⟩, rfl⟩
  (conv => whnf)
  (refine retE (by rfl) (by rfl) ⟨_, ?_, rfl⟩; refine mkSeg (r := s.ranges) (d := s.data) ?_ rfl; exact ⟨hs.1, hs.2⟩)
def EarB (e : Ear) : Prop := e.got.length ≤ 300 ∧ e.far.length ≤ 300 ∧ (0 ≤ e.next ∧ e.next ≤ 10000000) ∧ (0 ≤ e.room ∧ e.room ≤ 1000)
theorem earRead_r (e : Ear) (many : Int) (hg : e.got.length ≤ 300) (hf : e.far.length ≤ 300) : Fx 168 [e.v, int many] fun v => ∃ (e' : Ear) (b : List Int), EarB e' ∧ b.length ≤ 300 ∧ v = .tup [e'.v, byts b] := by
  have hb := bytes_len e.got
  have hfl : (e.far.map Early.c).length = e.far.length := by simp
  refine fn_of_vc tab_ok mixed Try.call168 Try.func168 rfl [] _ _ (by kernel_rfl) rfl rfl rfl ?_
  (conv => whnf); refine goP (earOk_ok' e (by omega) (by omega)) ?_
  rcases (Bool.eq_false_or_eq_true e.ok).symm with hok | hok
  · rw [hok]
    (conv => whnf)
    exact retE (by rfl) (by rfl) ⟨⟨0, 0, [], []⟩, [], ⟨by simp, by simp, by decide, by decide⟩, by simp, rfl⟩
  rw [hok]
  obtain ⟨a1, a2, a3⟩ := Ear.ok_b hok
  (conv => whnf)
  split <;> rename_i h4 <;> simp only [decide_eq_true_eq, decide_eq_false_iff_not] at h4
  · (conv => whnf)
    exact retE (by rfl) (by rfl) ⟨⟨0, 0, [], []⟩, [], ⟨by simp, by simp, by decide, by decide⟩, by simp, rfl⟩
  have hmi : minList [((bytes e.got).length : Int)] many = mi many (bytes e.got).length := rfl
  have m1 := mi_r many (bytes e.got).length
  (conv => whnf)
  refine ⟨[0, 1, 2, 3, 4, 5, 6, 7, 8, 9, 10, 11, 12, 13, 14, 15, 16], [(1, [2]), (3, [2]), (6, [2]), (12, [2]), (16, [7])], (by kernel_rfl), ?_⟩
  (conv => whnf)
  rw [hmi]
  generalize mi many ((bytes e.got).length : Int) = n at *
  refine ⟨by omega, by omega, ?_⟩
  rw [bytes_drop]
  (conv => whnf)
  refine ⟨by show (0 + (bytes _).length) * 1 ≤ 140737488355328; simp; omega, rfl, rfl, ?_⟩
  (conv => whnf)
  refine ⟨by show (0 + (e.far.map Early.c).length) * 16 ≤ 140737488355328; omega, rfl, rfl, ?_⟩
  (conv => whnf)
  refine ⟨[0, 1, 2, 3, 4, 5, 6, 7, 8], [(0, [7]), (3, [2]), (7, [4])], (by kernel_rfl), ?_⟩
  (conv => whnf)
  refine ⟨by omega, by omega, ?_⟩
  rw [bytes_take]
  (conv => whnf)
  refine ⟨by show (0 + (bytes _).length) * 1 ≤ 140737488355328; simp; omega, rfl, rfl, ?_⟩
  (conv => whnf)
  exact retE (by rfl) (by rfl) ⟨⟨e.next, e.room, e.got.drop n.toNat, e.far⟩, e.got.take n.toNat, ⟨by simp; omega, hf, by dsimp only; omega, by dsimp only; omega⟩, by simp; omega, rfl⟩
end Go.Proofs.Ytpeejmolbmhjjaa.Sx
end

section
namespace Go.Proofs.Ytpeejmolbmhjjaa.Sx
set_option linter.unusedSimpArgs false
set_option linter.unusedVariables false
open Go
set_option maxRecDepth 100000
set_option maxHeartbeats 0
abbrev sgs (l : List Seg) : PV := (false, [.lst 0 0 174 (l.map Seg.c)])
def SegsP (n : Nat) (p : PV) : Prop := ∃ l : List Seg, (∀ s ∈ l, s.wk) ∧ l.length ≤ n ∧ p = sgs l
theorem SegsP.nil {n : Nat} : SegsP n (sgs []) := ⟨[], by simp, Nat.zero_le _, rfl⟩
theorem SegsP.one {n : Nat} {s : Seg} (h : s.wk) : SegsP (n + 1) (false, [.lst 0 0 174 [s.c]]) := ⟨[s], by simpa using h, by simp, rfl⟩
/-- Ends and segments, the segments' list handed out as one's own. -/
def ES (n : Nat) (o : Out) : Prop := ∃ (e : End) (l : List Seg) (v : Nat), e.wk ∧ (∀ s ∈ l, s.wk) ∧ l.length ≤ n ∧ o = { tk := [(2, v)], res := .tup [e.v, (false, [.lst 2 v 174 (l.map Seg.c)])] }
theorem bytesE_l (e : End) (h : e.wk) : FnM Try.prog 167 [] [e.v] (ES 100) := by
  refine fn_of_vc tab_ok mixed Try.call167 Try.func167 rfl [] _ _ (by kernel_rfl) rfl rfl rfl ?_
  (conv => whnf)
  refine ⟨End × List Seg × List (List AV) × Nat, fun x => x.1.wk ∧ x.2.2.1 = x.2.1.map Seg.c ∧ (∀ s ∈ x.2.1, s.wk) ∧ (x.2.1.length : Int) ≤ x.1.out.sent, fun x => ⟨[(1, .one (.ptr 1 0)), (2, .one (.ptr 2 0)), (4, .one (.lst 144 x.2.2.2 174 x.2.2.1))], [(1, x.1.c), (2, [.i .i64 0, .i .i64 0, .i .i64 0, .i .i64 0, .i .i64 0, .i .i64 0, .i .i64 0, .lst 1 0 5 [], .i .i64 0, .i .i64 0, .lst 1 0 108 [], .i .i64 0, .i .i64 0, .lst 1 0 5 [], .lst 1 0 138 [], .b false, .b false, .b false, .i .i64 0, .i .i64 0, .i .i64 0, .i .i64 0, .i .i64 0, .i .i64 0])], [(144, x.2.2.2), (1, 0)], [1,2], [144,1]⟩, fun x => (x.1.out.keep.length - x.1.out.sent).toNat, (e, [], [], 0), fun x => rfl, ?_, (by refine ⟨?_, ?_, ?_⟩ <;> repeat' (first | exact trivial | refine ⟨rfl, ?_⟩)), ?_⟩
  · exact ⟨h, rfl, by simp, by have := h.sent; dsimp only; simp; omega⟩
  rintro ⟨e, l, cells, v⟩ ⟨hw, hc, hl, hs⟩
  dsimp only at hc hs hl hw
  subst hc
  obtain ⟨w1, w2, w3, w4, w5, w6, w7, w8, w9, w10⟩ := id hw
  have hll : (l.map Seg.c).length = l.length := by simp
  (conv => whnf); split <;> rename_i h4 <;> simp only [decide_eq_true_eq, decide_eq_false_iff_not] at h4
  case h_2 =>
    (conv => whnf)
    exact retG [(144, 2)] 0 (by rfl) (by rfl) (by rfl) (by rfl) (by rfl) (by rfl) ⟨e, l, v, hw, hl, by omega, rfl⟩
  (conv => whnf); refine goE (mouthNext_r e.out 12 (by omega) (by omega)) ?_
  rintro _ ⟨m, at1, b, hm, hat, hb, hb2, rfl⟩
  have hbl := bytes_len b
  (conv => whnf); split <;> rename_i h5 <;> simp only [decide_eq_true_eq, decide_eq_false_iff_not] at h5
  · (conv => whnf)
    exact retG [(144, 2)] 0 (by rfl) (by rfl) (by rfl) (by rfl) (by rfl) (by rfl) ⟨e, l, v, hw, hl, by omega, rfl⟩
  obtain ⟨hok, hk, hs1, hs2⟩ := hb2 (by omega)
  obtain ⟨m1, m2, m3, m4, m5⟩ := hm
  have hw2 : ({ e with out := m } : End).wk := ⟨by dsimp only; omega, by dsimp only; omega, w3, w4, by dsimp only; omega, by dsimp only; omega, w7, w8, w9, w10⟩
  (conv => whnf); refine goE (segment_r { e with out := m } at1 hw2) ?_
  rintro _ ⟨_, ⟨s, hsg, rfl⟩, rfl⟩
  (conv => whnf); refine ⟨by show ((l.map Seg.c).length + 1) * 96 ≤ 140737488355328; omega, rfl, rfl, ?_⟩
  (conv => whnf)
  refine ⟨({ e with out := m }, l ++ [{ s with data := b }], l.map Seg.c ++ [Seg.c { s with data := b }], v + 1), ⟨hw2, by simp, ?_, ?_⟩, ⟨⟨rfl, rfl, rfl, trivial⟩, ⟨rfl, rfl, trivial⟩, ⟨rfl, rfl, trivial⟩⟩, ?_⟩
  · intro t ht
    rcases List.mem_append.1 ht with ht | ht
    · exact hl t ht
    · simp at ht; subst ht; exact ⟨hsg.1, by dsimp only; omega⟩
  · simp; omega
  · show ((m.keep.length : Int) - m.sent).toNat < ((e.out.keep.length : Int) - e.out.sent).toNat
    rw [hk]; omega
theorem mkES {n : Nat} {a1 a2 a3 a4 a5 a6 m1 m3 m4 r1 r2 a7 a8 a9 c1 c2 c3 : Int} {m2 r3 : List Int} {m5 : List Rng} {r4 : List Early} {b1 b2 b3 : Bool} {o : Out} {l : List Seg} {v : Nat}
    (h : End.wk ⟨a1, a2, a3, a4, a5, a6, ⟨m1, m2, m3, m4, m5⟩, ⟨r1, r2, r3, r4⟩, b1, b2, b3, a7, a8, a9, ⟨c1, c2, c3⟩⟩) (hl : ∀ s ∈ l, s.wk) (hn : l.length ≤ n)
    (ho : o = { tk := [(2, v)], res := .tup [(true, [.i .i64 a1, .i .i64 a2, .i .i64 a3, .i .i64 a4, .i .i64 a5, .i .i64 a6, .i .i64 m1, .lst 0 0 5 (bytes m2), .i .i64 m3, .i .i64 m4, .lst 0 0 108 (m5.map Rng.c), .i .i64 r1, .i .i64 r2, .lst 0 0 5 (bytes r3), .lst 0 0 138 (r4.map Early.c),
      .b b1, .b b2, .b b3, .i .i64 a7, .i .i64 a8, .i .i64 a9, .i .i64 c1, .i .i64 c2, .i .i64 c3]), (false, [.lst 2 v 174 (l.map Seg.c)])] }) : ES n o := ⟨_, l, v, h, hl, hn, ho⟩
theorem flush_l (e : End) (h : e.wk) : FnM Try.prog 177 [] [e.v] (ES 101) := by
  refine fn_of_vc tab_ok mixed Try.call177 Try.func177 rfl [] _ _ (by kernel_rfl) rfl rfl rfl ?_
  (conv => whnf); refine ⟨[], _, bytesE_l e h, trivial, ?_⟩
  rintro o ⟨e1, l, v, h1, hl, hl2, rfl⟩ _
  have hll : (l.map Seg.c).length = l.length := by simp
  have hb := bytes_len e1.out.keep
  obtain ⟨s1, s2, s3, s4, s5, s6, ⟨m1, m2, m3, m4, m5⟩, ⟨r1, r2, r3, r4⟩, b1, b2, b3, a7, a8, a9, ⟨c1, c2, c3⟩⟩ := e1
  have R : ∀ lt : Bool, End.wk ⟨s1, s2, s3, s4, s5, s6, ⟨m1, m2, m3, m4, m5⟩, ⟨r1, r2, r3, r4⟩, b1, lt, b3, a7, a8, a9, ⟨c1, c2, c3⟩⟩ := fun lt => ⟨h1.keep, h1.early, h1.got, h1.far, h1.heard, h1.sent, h1.next, h1.room, h1.wait, h1.base⟩
  cases b1 <;> cases b2
  all_goals
    repeat' ((conv => whnf); first
        | ((refine goE (last_r _ (R true)) ?_; rintro _ ⟨_, ⟨s, hsg, rfl⟩, rfl⟩))
        | (refine ⟨by show ((l.map Seg.c).length + 1) * 96 ≤ 140737488355328; omega, rfl, rfl, ?_⟩)
        | (exact retG [(114, 2)] 0 (by rfl) (by rfl) (by rfl) (by rfl) (by rfl) (by rfl) (mkES (l := l) (R _) hl (by omega) rfl))
        | (exact retG [(114, 2)] 0 (by rfl) (by rfl) (by rfl) (by rfl) (by rfl) (by rfl) (mkES (l := l ++ [s]) (R _) (fun t ht => (List.mem_append.1 ht).elim (hl t) (fun ht => by simp at ht; subst ht; exact hsg)) (by simp; omega) (by rw [List.map_append]; rfl)))
        | (split <;> rename_i hq <;> (try simp only [Bool.not_eq_eq_eq_not, Bool.not_true, Bool.not_false, decide_eq_true_eq, decide_eq_false_iff_not, inB_t, inB_f, bytes_len, List.length_map, Bool.and_eq_true, Bool.and_eq_false_iff, and_true] at hq) <;> (try (exfalso; first | omega | (simp_all; done))))
        | (refine goW (by first | omega | (simp; omega)) (by first | omega | (simp; omega)) ?_)
        | (refine ret1 (by rfl) (by rfl) (outB ?_); first | rfl | grind [inB])
        | (refine ret1 (by rfl) (by rfl) (outI ?_); first | rfl | omega | grind [inB])
        | (refine ret1 (by rfl) (by rfl) (outB ?_)) | (refine ret1 (by rfl) (by rfl) (outI ?_)))
end Go.Proofs.Ytpeejmolbmhjjaa.Sx
end

section
namespace Go.Proofs.Ytpeejmolbmhjjaa.Sx
set_option linter.unusedSimpArgs false
set_option linter.unusedVariables false
open Go
set_option maxRecDepth 100000
set_option maxHeartbeats 0
theorem bytes_snoc2 (a : List Int) (n : Int) : bytes a ++ [[.i .u8 n]] = bytes (a ++ [n]) := by simp [bytes]
theorem earHear_r (e : Ear) (at_ : Int) (data : List Int) (hg : e.got.length ≤ 300) (hf : e.far.length ≤ 300) (hd : data.length ≤ 100) : Fx 190 [e.v, int at_, byts data] fun v => ∃ e' : Ear, EarB e' ∧ v = .pv e'.v := by
  have hb := bytes_len e.got
  have hbd := bytes_len data
  have hfl : (e.far.map Early.c).length = e.far.length := by simp
  refine fn_of_vc tab_ok mixed Try.call190 Try.func190 rfl [] _ _ (by kernel_rfl) rfl rfl rfl ?_
  (conv => whnf); refine goP (earOk_ok' e (by omega) (by omega)) ?_
  rcases (Bool.eq_false_or_eq_true e.ok).symm with hok | hok
  · rw [hok]
    (conv => whnf)
    exact retE (by rfl) (by rfl) ⟨⟨0, 0, [], []⟩, ⟨by simp, by simp, by decide, by decide⟩, rfl⟩
  rw [hok]
  obtain ⟨a1, a2, a3⟩ := Ear.ok_b hok
  have a4 := ear_len hok
  (conv => whnf); refine goP (l1In_ok _ _ _) ?_
  by_cases hat : 0 ≤ at_ ∧ at_ ≤ 1000000
  case neg =>
    rw [show inB at_ 0 1000000 = false by simp [inB]; omega]
    (conv => whnf)
    exact retE (by rfl) (by rfl) ⟨⟨0, 0, [], []⟩, ⟨by simp, by simp, by decide, by decide⟩, rfl⟩
  rw [show inB at_ 0 1000000 = true by simp [inB]; omega]
  (conv => whnf); refine goE (earFree_r e (by omega) (by omega)) ?_
  rintro _ ⟨fr, hfr, rfl⟩
  (conv => whnf)
  refine ⟨by show (0 + (e.far.map Early.c).length) * 16 ≤ 140737488355328; omega, rfl, rfl, ?_⟩
  (conv => whnf)
  refine ⟨Nat × List Early, fun x => x.1 ≤ data.length ∧ x.2.length ≤ e.far.length + x.1, fun x => ⟨[(1, .one (.i .i64 at_)), (2, .one (.lst 0 0 5 (bytes data))), (3, .one (.ptr 3 0)), (6, .one (.ptr 6 0)), (7, .one (.i .i64 fr)), (8, .one (.lst 0 0 138 (x.2.map Early.c))), (9, .one (.i .i64 x.1))], [(3, e.c), (6, [.i .i64 0, .i .i64 0, .lst 1 0 5 [], .lst 1 0 138 []])], [(1, 0)], [3,6], [1]⟩, fun x => data.length - x.1, (0, e.far), fun x => rfl, ?_, (by refine ⟨?_, ?_, ?_⟩ <;> repeat' (first | exact trivial | refine ⟨rfl, ?_⟩)), ?_⟩
  · exact ⟨by dsimp only; omega, by simp⟩
  rintro ⟨k, far⟩ ⟨hk, hfa⟩
  dsimp only at hk hfa
  have hfl2 : (far.map Early.c).length = far.length := by simp
  (conv => whnf); split <;> rename_i h4 <;> simp only [decide_eq_true_eq, decide_eq_false_iff_not] at h4
  case h_1 =>
    have hlt : k < (bytes data).length := by omega
    repeat' ((conv => whnf); first
        | (refine goIdx [.i .u8 (data.getD k 0)] (by first | omega | (dsimp only; omega)) rfl (by simpa using bytes_get2 hlt) ?_)
        | ((refine goE (put_r far ⟨_, _⟩ (by omega)) ?_; rintro _ ⟨far2, hfar2, rfl⟩))
        | (refine goW (by first | omega | (dsimp only; omega)) (by first | omega | (dsimp only; omega)) ?_)
        | (split <;> rename_i hq <;> (try simp only [Bool.not_eq_eq_eq_not, Bool.not_true, Bool.not_false, decide_eq_true_eq, decide_eq_false_iff_not, inB_t, inB_f, bytes_len, List.length_map, Bool.and_eq_true, Bool.and_eq_false_iff, and_true] at hq) <;> (try (exfalso; first | omega | (simp_all; done))))
        | (refine goW (by first | omega | (simp; omega)) (by first | omega | (simp; omega)) ?_)
        | (refine ret1 (by rfl) (by rfl) (outB ?_); first | rfl | grind [inB])
        | (refine ret1 (by rfl) (by rfl) (outI ?_); first | rfl | omega | grind [inB])
        | (refine ret1 (by rfl) (by rfl) (outB ?_)) | (refine ret1 (by rfl) (by rfl) (outI ?_)))
    all_goals (conv => whnf)
    all_goals first
      | (refine ⟨(k + 1, far), ?_, ⟨⟨rfl, rfl, rfl, rfl, rfl, rfl, rfl, trivial⟩, ⟨rfl, rfl, trivial⟩, ⟨rfl, trivial⟩⟩, ?_⟩; (focus (exact ⟨by dsimp only; omega, by dsimp only; omega⟩)); (focus (show data.length - (k + 1) < data.length - k; omega)))
      | (refine ⟨(k + 1, far2), ?_, ⟨⟨rfl, rfl, rfl, rfl, rfl, rfl, rfl, trivial⟩, ⟨rfl, rfl, trivial⟩, ⟨rfl, trivial⟩⟩, ?_⟩; (focus (exact ⟨by dsimp only; omega, by dsimp only; omega⟩)); (focus (show data.length - (k + 1) < data.length - k; omega)))
  case h_2 =>
    (conv => whnf)
    refine ⟨[0, 1, 2, 3, 4, 5, 6, 7, 8, 9, 10], [(1, [3]), (3, [3]), (6, [3]), (10, [10])], (by kernel_rfl), ?_⟩
    (conv => whnf)
    refine ⟨by show (0 + (bytes e.got).length) * 1 ≤ 140737488355328; omega, rfl, rfl, ?_⟩
    (conv => whnf)
    refine ⟨Nat × List Int × List (List AV) × Nat × Int, fun x => x.2.2.1 = bytes x.2.1 ∧ x.2.1.length = e.got.length + x.1 ∧ x.1 ≤ far.length ∧ x.2.2.2.2 = e.next + x.1, fun x => ⟨[(6, .one (.ptr 6 0)), (8, .one (.lst 0 0 138 (far.map Early.c))), (10, .one (.ptr 10 0)), (11, .one (.i .i64 x.1))], [(6, [.i .i64 0, .i .i64 0, .lst 1 0 5 [], .lst 1 0 138 []]), (10, [.i .i64 x.2.2.2.2, .i .i64 e.room, .lst 1008 x.2.2.2.1 5 x.2.2.1, .lst 1 0 138 []])], [(1008, x.2.2.2.1), (1, 0)], [6,10], [1008,1]⟩, fun x => far.length - x.1, (0, e.got, bytes e.got, 1, e.next), fun x => rfl, ?_, (by refine ⟨?_, ?_, ?_⟩ <;> repeat' (first | exact trivial | refine ⟨rfl, ?_⟩)), ?_⟩
    · exact ⟨rfl, by simp, by dsimp only; omega, by simp⟩
    rintro ⟨m, got, cells, v, nx⟩ ⟨hc, hgl, hm, hnx⟩
    dsimp only at hc hgl hm hnx
    subst hc
    have hbg := bytes_len got
    have fin : EarB ⟨nx, e.room, got, far.drop m⟩ := ⟨by dsimp only; omega, by simp; omega, by dsimp only; omega, by dsimp only; omega⟩
    (conv => whnf)
    refine ⟨[0, 1, 2, 3, 4, 5, 6, 7, 8, 9, 10, 11, 12, 13], [(11, [10])], (by kernel_rfl), ?_⟩
    (conv => whnf)
    split <;> rename_i h5 <;> simp only [decide_eq_true_eq, decide_eq_false_iff_not] at h5
    case h_2 =>
      (conv => whnf)
      refine ⟨by first | omega | (dsimp only; omega), by first | omega | (dsimp only; omega), ?_⟩
      rw [show (far.map Early.c).drop ((m : Nat) : Int).toNat = (far.drop m).map Early.c by simp [List.map_drop]]
      (conv => whnf)
      split <;> rename_i h6
      · (conv => whnf)
        exact retE (by rfl) (by rfl) ⟨⟨0, 0, [], []⟩, ⟨by simp, by simp, by decide, by decide⟩, rfl⟩
      · (conv => whnf)
        exact retE (by rfl) (by rfl) ⟨⟨nx, e.room, got, far.drop m⟩, fin, rfl⟩
    have hlt : m < (far.map Early.c).length := by omega
    obtain ⟨r, hr⟩ := map_get2 Early.c far m hlt
    (conv => whnf)
    refine goIdx r.c (by first | omega | (dsimp only; omega)) rfl (by simpa using hr) ?_
    (conv => whnf)
    split <;> rename_i h7 <;> simp only [decide_eq_true_eq, decide_eq_false_iff_not] at h7
    case h_2 =>
      (conv => whnf)
      refine ⟨by first | omega | (dsimp only; omega), by first | omega | (dsimp only; omega), ?_⟩
      rw [show (far.map Early.c).drop ((m : Nat) : Int).toNat = (far.drop m).map Early.c by simp [List.map_drop]]
      (conv => whnf)
      split <;> rename_i h6
      · (conv => whnf)
        exact retE (by rfl) (by rfl) ⟨⟨0, 0, [], []⟩, ⟨by simp, by simp, by decide, by decide⟩, rfl⟩
      · (conv => whnf)
        exact retE (by rfl) (by rfl) ⟨⟨nx, e.room, got, far.drop m⟩, fin, rfl⟩
    (conv => whnf)
    refine ⟨[0, 1, 2, 3, 4, 5, 6, 7, 8, 9, 10], [(1, [10]), (10, [10])], (by kernel_rfl), ?_⟩
    (conv => whnf)
    refine goIdx r.c (by first | omega | (dsimp only; omega)) rfl (by simpa using hr) ?_
    (conv => whnf)
    refine ⟨by show ((bytes got).length + 1) * 1 ≤ 140737488355328; omega, rfl, rfl, ?_⟩
    (conv => whnf); refine goW (by first | omega | (dsimp only; omega)) (by first | omega | (dsimp only; omega)) ?_
    (conv => whnf); refine goW (by first | omega | (dsimp only; omega)) (by first | omega | (dsimp only; omega)) ?_
    (conv => whnf)
    refine ⟨(m + 1, got ++ [r.b], bytes got ++ [[AV.i .u8 r.b]], v + 1, nx + 1), ⟨bytes_snoc2 _ _, by simp; omega, by dsimp only; omega, by dsimp only; omega⟩, ⟨⟨rfl, rfl, rfl, rfl, trivial⟩, ⟨rfl, rfl, trivial⟩, ⟨rfl, rfl, trivial⟩⟩, ?_⟩
    show far.length - (m + 1) < far.length - m
    omega
end Go.Proofs.Ytpeejmolbmhjjaa.Sx
end

section
namespace Go.Proofs.Ytpeejmolbmhjjaa.Sx
set_option linter.unusedSimpArgs false
set_option linter.unusedVariables false
open Go
set_option maxRecDepth 100000
set_option maxHeartbeats 0
theorem took_r (e : End) (s : Seg) (h : e.wk) (hs : s.wk) : Fx 178 [e.v, s.v] fun v => ∃ p x, EndP p ∧ v = .tup [p, bool x] := by
  obtain ⟨w1, w2, w3, w4, w5, w6, w7, w8, w9, w10⟩ := h
  obtain ⟨q1, q2⟩ := hs
  have hb := bytes_len e.out.keep
  have hrl : (s.ranges.map Rng.c).length = s.ranges.length := by simp
  refine fn_of_vc tab_ok mixed Try.call178 Try.func178 rfl [] _ _ (by kernel_rfl) rfl rfl rfl ?_
  (conv => whnf); refine goE (seqPlace_r _ _ (by omega)) ?_
  rintro _ ⟨a, ha, rfl⟩
  (conv => whnf); refine goW (by omega) (by omega) ?_
  (conv => whnf)
  cases hlt : e.lastTold with
  | false =>
    (conv => whnf)
    refine ⟨Nat × List Rng × List (List AV) × Nat, fun x => x.2.2.1 = x.2.1.map Rng.c ∧ x.2.1.length = x.1 ∧ x.1 ≤ s.ranges.length, fun x => ⟨[(2, .one (.ptr 2 0)), (3, .one (.ptr 3 0)), (4, .one (.ptr 4 0)), (6, .one (.i .i64 a)), (7, .one (.b false)), (9, .one (.lst 640 x.2.2.2 108 x.2.2.1)), (10, .one (.i .i64 x.1))], [(2, End.c { e with lastTold := false, lastHeard := e.lastHeard }), (3, s.c), (4, [.i .i64 0, .i .i64 0, .i .i64 0, .i .i64 0, .i .i64 0, .i .i64 0, .i .i64 0, .lst 1 0 5 [], .i .i64 0, .i .i64 0, .lst 1 0 108 [], .i .i64 0, .i .i64 0, .lst 1 0 5 [], .lst 1 0 138 [], .b false, .b false, .b false, .i .i64 0, .i .i64 0, .i .i64 0, .i .i64 0, .i .i64 0, .i .i64 0])], [(640, x.2.2.2), (1, 0)], [2,3,4], [640,1]⟩, fun x => s.ranges.length - x.1, (0, [], [], 0), fun x => rfl, ?_, (by refine ⟨?_, ?_, ?_⟩ <;> repeat' (first | exact trivial | refine ⟨rfl, ?_⟩)), ?_⟩
    · exact ⟨rfl, rfl, by dsimp only; omega⟩
    rintro ⟨k, acc, cells, v⟩ ⟨hc, hk, hk2⟩
    dsimp only at hc hk hk2
    subst hc
    have hal : (acc.map Rng.c).length = acc.length := by simp
    (conv => whnf); split <;> rename_i h5 <;> simp only [decide_eq_true_eq, decide_eq_false_iff_not] at h5
    case h_1 =>
      have hlt : k < (s.ranges.map Rng.c).length := by omega
      obtain ⟨r, hr⟩ := map_get2 Rng.c s.ranges k hlt
      (conv => whnf)
      refine ⟨[0, 1, 2, 3, 4, 5, 6, 7, 8, 9, 11, 12, 13, 14, 15, 16, 17, 18, 19, 10, 20, 21, 22, 23, 24], [(3, [2]), (5, [3]), (13, [2]), (15, [3])], (by kernel_rfl), ?_⟩
      (conv => whnf)
      refine goIdx r.c (by first | omega | (dsimp only; omega)) rfl (by simpa using hr) ?_
      (conv => whnf); first | refine goIdx r.c (by first | omega | (dsimp only; omega)) rfl (by simpa using hr) ?_ | skip
      (conv => whnf); refine goE (seqPlace_r _ _ (by first | omega | (dsimp only; omega))) ?_
      rintro _ ⟨n5, hn5, rfl⟩
      (conv => whnf); first | refine goIdx r.c (by first | omega | (dsimp only; omega)) rfl (by simpa using hr) ?_ | skip
      (conv => whnf); refine goE (seqPlace_r _ _ (by first | omega | (dsimp only; omega))) ?_
      rintro _ ⟨n6, hn6, rfl⟩
      (conv => whnf); refine ⟨by show ((acc.map Rng.c).length + 1) * 16 ≤ 140737488355328; omega, rfl, rfl, ?_⟩
      (conv => whnf); refine goW (by first | omega | (dsimp only; omega)) (by first | omega | (dsimp only; omega)) ?_
      (conv => whnf)
      refine ⟨(k + 1, acc ++ [(⟨n5, n6⟩ : Rng)], acc.map Rng.c ++ [[AV.i .i64 n5, AV.i .i64 n6]], v + 1), ⟨by simp [Rng.c], by simp; omega, by dsimp only; omega⟩, ⟨⟨rfl, rfl, rfl, rfl, rfl, rfl, rfl, trivial⟩, ⟨rfl, rfl, rfl, trivial⟩, ⟨rfl, rfl, trivial⟩⟩, ?_⟩
      show s.ranges.length - (k + 1) < s.ranges.length - k
      omega
    case h_2 =>
      (conv => whnf)
      refine goE (mouthHear_r e.out _ s.room acc (by omega) (by omega) (by omega) (by first | omega | (dsimp only; omega))) ?_
      rintro _ ⟨m, n7, ⟨m1, m2, m3, m4, m5⟩, hn7, rfl⟩
      (conv => whnf); refine goP (mouthOk_ok' m (by omega) (by omega)) ?_
      rcases (Bool.eq_false_or_eq_true m.ok).symm with hok | hok
      · rw [hok]
        (conv => whnf)
        (refine retE (by rfl) (by rfl) ⟨_, _, ?_, rfl⟩; refine mkEnd ?_ rfl; (constructor <;> (try dsimp only) <;> first | omega | (simp; done) | (simp; omega)))
      · rw [hok]
        repeat' ((conv => whnf); first
            | ((refine retE (by rfl) (by rfl) ⟨_, _, ?_, rfl⟩; refine mkEnd ?_ rfl; (constructor <;> (try dsimp only) <;> first | omega | (simp; done) | (simp; omega))))
            | (split <;> rename_i hq <;> (try simp only [Bool.not_eq_eq_eq_not, Bool.not_true, Bool.not_false, decide_eq_true_eq, decide_eq_false_iff_not, inB_t, inB_f, bytes_len, List.length_map, Bool.and_eq_true, Bool.and_eq_false_iff, and_true] at hq) <;> (try (exfalso; first | omega | (simp_all; done))))
            | (refine goW (by first | omega | (simp; omega)) (by first | omega | (simp; omega)) ?_)
            | (refine ret1 (by rfl) (by rfl) (outB ?_); first | rfl | grind [inB])
            | (refine ret1 (by rfl) (by rfl) (outI ?_); first | rfl | omega | grind [inB])
            | (refine ret1 (by rfl) (by rfl) (outB ?_)) | (refine ret1 (by rfl) (by rfl) (outI ?_)))
  | true =>
    (conv => whnf); refine goW (by first | omega | (simp; omega)) (by first | omega | (simp; omega)) ?_
    (conv => whnf); split <;> rename_i h9 <;> simp only [decide_eq_true_eq, decide_eq_false_iff_not] at h9
    · (conv => whnf)
      refine ⟨Nat × List Rng × List (List AV) × Nat, fun x => x.2.2.1 = x.2.1.map Rng.c ∧ x.2.1.length = x.1 ∧ x.1 ≤ s.ranges.length, fun x => ⟨[(2, .one (.ptr 2 0)), (3, .one (.ptr 3 0)), (4, .one (.ptr 4 0)), (6, .one (.i .i64 (e.out.heard + (bytes e.out.keep).length))), (7, .one (.b (!e.lastHeard))), (9, .one (.lst 640 x.2.2.2 108 x.2.2.1)), (10, .one (.i .i64 x.1))], [(2, End.c { e with lastTold := true, lastHeard := true }), (3, s.c), (4, [.i .i64 0, .i .i64 0, .i .i64 0, .i .i64 0, .i .i64 0, .i .i64 0, .i .i64 0, .lst 1 0 5 [], .i .i64 0, .i .i64 0, .lst 1 0 108 [], .i .i64 0, .i .i64 0, .lst 1 0 5 [], .lst 1 0 138 [], .b false, .b false, .b false, .i .i64 0, .i .i64 0, .i .i64 0, .i .i64 0, .i .i64 0, .i .i64 0])], [(640, x.2.2.2), (1, 0)], [2,3,4], [640,1]⟩, fun x => s.ranges.length - x.1, (0, [], [], 0), fun x => rfl, ?_, (by refine ⟨?_, ?_, ?_⟩ <;> repeat' (first | exact trivial | refine ⟨rfl, ?_⟩)), ?_⟩
      · exact ⟨rfl, rfl, by dsimp only; omega⟩
      rintro ⟨k, acc, cells, v⟩ ⟨hc, hk, hk2⟩
      dsimp only at hc hk hk2
      subst hc
      have hal : (acc.map Rng.c).length = acc.length := by simp
      (conv => whnf); split <;> rename_i h5 <;> simp only [decide_eq_true_eq, decide_eq_false_iff_not] at h5
      case h_1 =>
        have hlt : k < (s.ranges.map Rng.c).length := by omega
        obtain ⟨r, hr⟩ := map_get2 Rng.c s.ranges k hlt
        (conv => whnf)
        refine ⟨[0, 1, 2, 3, 4, 5, 6, 7, 8, 9, 11, 12, 13, 14, 15, 16, 17, 18, 19, 10, 20, 21, 22, 23, 24], [(3, [2]), (5, [3]), (13, [2]), (15, [3])], (by kernel_rfl), ?_⟩
        (conv => whnf)
        refine goIdx r.c (by first | omega | (dsimp only; omega)) rfl (by simpa using hr) ?_
        (conv => whnf); first | refine goIdx r.c (by first | omega | (dsimp only; omega)) rfl (by simpa using hr) ?_ | skip
        (conv => whnf); refine goE (seqPlace_r _ _ (by first | omega | (dsimp only; omega))) ?_
        rintro _ ⟨n5, hn5, rfl⟩
        (conv => whnf); first | refine goIdx r.c (by first | omega | (dsimp only; omega)) rfl (by simpa using hr) ?_ | skip
        (conv => whnf); refine goE (seqPlace_r _ _ (by first | omega | (dsimp only; omega))) ?_
        rintro _ ⟨n6, hn6, rfl⟩
        (conv => whnf); refine ⟨by show ((acc.map Rng.c).length + 1) * 16 ≤ 140737488355328; omega, rfl, rfl, ?_⟩
        (conv => whnf); refine goW (by first | omega | (dsimp only; omega)) (by first | omega | (dsimp only; omega)) ?_
        (conv => whnf)
        refine ⟨(k + 1, acc ++ [(⟨n5, n6⟩ : Rng)], acc.map Rng.c ++ [[AV.i .i64 n5, AV.i .i64 n6]], v + 1), ⟨by simp [Rng.c], by simp; omega, by dsimp only; omega⟩, ⟨⟨rfl, rfl, rfl, rfl, rfl, rfl, rfl, trivial⟩, ⟨rfl, rfl, rfl, trivial⟩, ⟨rfl, rfl, trivial⟩⟩, ?_⟩
        show s.ranges.length - (k + 1) < s.ranges.length - k
        omega
      case h_2 =>
        (conv => whnf)
        refine goE (mouthHear_r e.out _ s.room acc (by omega) (by omega) (by omega) (by first | omega | (dsimp only; omega))) ?_
        rintro _ ⟨m, n7, ⟨m1, m2, m3, m4, m5⟩, hn7, rfl⟩
        (conv => whnf); refine goP (mouthOk_ok' m (by omega) (by omega)) ?_
        rcases (Bool.eq_false_or_eq_true m.ok).symm with hok | hok
        · rw [hok]
          (conv => whnf)
          (refine retE (by rfl) (by rfl) ⟨_, _, ?_, rfl⟩; refine mkEnd ?_ rfl; (constructor <;> (try dsimp only) <;> first | omega | (simp; done) | (simp; omega)))
        · rw [hok]
          repeat' ((conv => whnf); first
              | ((refine retE (by rfl) (by rfl) ⟨_, _, ?_, rfl⟩; refine mkEnd ?_ rfl; (constructor <;> (try dsimp only) <;> first | omega | (simp; done) | (simp; omega))))
              | (split <;> rename_i hq <;> (try simp only [Bool.not_eq_eq_eq_not, Bool.not_true, Bool.not_false, decide_eq_true_eq, decide_eq_false_iff_not, inB_t, inB_f, bytes_len, List.length_map, Bool.and_eq_true, Bool.and_eq_false_iff, and_true] at hq) <;> (try (exfalso; first | omega | (simp_all; done))))
              | (refine goW (by first | omega | (simp; omega)) (by first | omega | (simp; omega)) ?_)
              | (refine ret1 (by rfl) (by rfl) (outB ?_); first | rfl | grind [inB])
              | (refine ret1 (by rfl) (by rfl) (outI ?_); first | rfl | omega | grind [inB])
              | (refine ret1 (by rfl) (by rfl) (outB ?_)) | (refine ret1 (by rfl) (by rfl) (outI ?_)))
    · (conv => whnf)
      refine ⟨Nat × List Rng × List (List AV) × Nat, fun x => x.2.2.1 = x.2.1.map Rng.c ∧ x.2.1.length = x.1 ∧ x.1 ≤ s.ranges.length, fun x => ⟨[(2, .one (.ptr 2 0)), (3, .one (.ptr 3 0)), (4, .one (.ptr 4 0)), (6, .one (.i .i64 a)), (7, .one (.b false)), (9, .one (.lst 640 x.2.2.2 108 x.2.2.1)), (10, .one (.i .i64 x.1))], [(2, End.c { e with lastTold := true, lastHeard := e.lastHeard }), (3, s.c), (4, [.i .i64 0, .i .i64 0, .i .i64 0, .i .i64 0, .i .i64 0, .i .i64 0, .i .i64 0, .lst 1 0 5 [], .i .i64 0, .i .i64 0, .lst 1 0 108 [], .i .i64 0, .i .i64 0, .lst 1 0 5 [], .lst 1 0 138 [], .b false, .b false, .b false, .i .i64 0, .i .i64 0, .i .i64 0, .i .i64 0, .i .i64 0, .i .i64 0])], [(640, x.2.2.2), (1, 0)], [2,3,4], [640,1]⟩, fun x => s.ranges.length - x.1, (0, [], [], 0), fun x => rfl, ?_, (by refine ⟨?_, ?_, ?_⟩ <;> repeat' (first | exact trivial | refine ⟨rfl, ?_⟩)), ?_⟩
      · exact ⟨rfl, rfl, by dsimp only; omega⟩
      rintro ⟨k, acc, cells, v⟩ ⟨hc, hk, hk2⟩
      dsimp only at hc hk hk2
      subst hc
      have hal : (acc.map Rng.c).length = acc.length := by simp
      (conv => whnf); split <;> rename_i h5 <;> simp only [decide_eq_true_eq, decide_eq_false_iff_not] at h5
      case h_1 =>
        have hlt : k < (s.ranges.map Rng.c).length := by omega
        obtain ⟨r, hr⟩ := map_get2 Rng.c s.ranges k hlt
        (conv => whnf)
        refine ⟨[0, 1, 2, 3, 4, 5, 6, 7, 8, 9, 11, 12, 13, 14, 15, 16, 17, 18, 19, 10, 20, 21, 22, 23, 24], [(3, [2]), (5, [3]), (13, [2]), (15, [3])], (by kernel_rfl), ?_⟩
        (conv => whnf)
        refine goIdx r.c (by first | omega | (dsimp only; omega)) rfl (by simpa using hr) ?_
        (conv => whnf); first | refine goIdx r.c (by first | omega | (dsimp only; omega)) rfl (by simpa using hr) ?_ | skip
        (conv => whnf); refine goE (seqPlace_r _ _ (by first | omega | (dsimp only; omega))) ?_
        rintro _ ⟨n5, hn5, rfl⟩
        (conv => whnf); first | refine goIdx r.c (by first | omega | (dsimp only; omega)) rfl (by simpa using hr) ?_ | skip
        (conv => whnf); refine goE (seqPlace_r _ _ (by first | omega | (dsimp only; omega))) ?_
        rintro _ ⟨n6, hn6, rfl⟩
        (conv => whnf); refine ⟨by show ((acc.map Rng.c).length + 1) * 16 ≤ 140737488355328; omega, rfl, rfl, ?_⟩
        (conv => whnf); refine goW (by first | omega | (dsimp only; omega)) (by first | omega | (dsimp only; omega)) ?_
        (conv => whnf)
        refine ⟨(k + 1, acc ++ [(⟨n5, n6⟩ : Rng)], acc.map Rng.c ++ [[AV.i .i64 n5, AV.i .i64 n6]], v + 1), ⟨by simp [Rng.c], by simp; omega, by dsimp only; omega⟩, ⟨⟨rfl, rfl, rfl, rfl, rfl, rfl, rfl, trivial⟩, ⟨rfl, rfl, rfl, trivial⟩, ⟨rfl, rfl, trivial⟩⟩, ?_⟩
        show s.ranges.length - (k + 1) < s.ranges.length - k
        omega
      case h_2 =>
        (conv => whnf)
        refine goE (mouthHear_r e.out _ s.room acc (by omega) (by omega) (by omega) (by first | omega | (dsimp only; omega))) ?_
        rintro _ ⟨m, n7, ⟨m1, m2, m3, m4, m5⟩, hn7, rfl⟩
        (conv => whnf); refine goP (mouthOk_ok' m (by omega) (by omega)) ?_
        rcases (Bool.eq_false_or_eq_true m.ok).symm with hok | hok
        · rw [hok]
          (conv => whnf)
          (refine retE (by rfl) (by rfl) ⟨_, _, ?_, rfl⟩; refine mkEnd ?_ rfl; (constructor <;> (try dsimp only) <;> first | omega | (simp; done) | (simp; omega)))
        · rw [hok]
          repeat' ((conv => whnf); first
              | ((refine retE (by rfl) (by rfl) ⟨_, _, ?_, rfl⟩; refine mkEnd ?_ rfl; (constructor <;> (try dsimp only) <;> first | omega | (simp; done) | (simp; omega))))
              | (split <;> rename_i hq <;> (try simp only [Bool.not_eq_eq_eq_not, Bool.not_true, Bool.not_false, decide_eq_true_eq, decide_eq_false_iff_not, inB_t, inB_f, bytes_len, List.length_map, Bool.and_eq_true, Bool.and_eq_false_iff, and_true] at hq) <;> (try (exfalso; first | omega | (simp_all; done))))
              | (refine goW (by first | omega | (simp; omega)) (by first | omega | (simp; omega)) ?_)
              | (refine ret1 (by rfl) (by rfl) (outB ?_); first | rfl | grind [inB])
              | (refine ret1 (by rfl) (by rfl) (outI ?_); first | rfl | omega | grind [inB])
              | (refine ret1 (by rfl) (by rfl) (outB ?_)) | (refine ret1 (by rfl) (by rfl) (outI ?_)))
end Go.Proofs.Ytpeejmolbmhjjaa.Sx
end

section
namespace Go.Proofs.Ytpeejmolbmhjjaa.Sx
set_option linter.unusedSimpArgs false
set_option linter.unusedVariables false
open Go
set_option maxRecDepth 100000
set_option maxHeartbeats 0
theorem heardS_r (e : End) (s : Seg) (h : e.wk) (hs : s.wk) : Fx 179 [e.v, s.v] fun v => ∃ p, EndP p ∧ v = .pv p := by
  obtain ⟨w1, w2, w3, w4, w5, w6, w7, w8, w9, w10⟩ := h
  obtain ⟨q1, q2⟩ := hs
  have hb := bytes_len s.data
  refine fn_of_vc tab_ok mixed Try.call179 Try.func179 rfl [] _ _ (by kernel_rfl) rfl rfl rfl ?_
  (conv => whnf); refine goE (seqPlace_r _ _ (by omega)) ?_
  rintro _ ⟨a, ha, rfl⟩
  repeat' ((conv => whnf); first
      | ((refine goE (earHear_r e.inn _ s.data (by omega) (by omega) (by omega)) ?_; rintro _ ⟨x, ⟨x1, x2, x3, x4⟩, rfl⟩))
      | (refine goP (earOk_ok' x (by omega) (by omega)) ?_)
      | ((refine retE (by rfl) (by rfl) ⟨_, ?_, rfl⟩; refine mkEnd ?_ rfl; (constructor <;> (try dsimp only) <;> first | omega | (simp; done) | (simp; omega))))
      | (split <;> rename_i hq <;> (try simp only [Bool.not_eq_eq_eq_not, Bool.not_true, Bool.not_false, decide_eq_true_eq, decide_eq_false_iff_not, inB_t, inB_f, bytes_len, List.length_map, Bool.and_eq_true, Bool.and_eq_false_iff, and_true] at hq) <;> (try (exfalso; first | omega | (simp_all; done))))
      | (refine goW (by first | omega | (simp; omega)) (by first | omega | (simp; omega)) ?_)
      | (refine ret1 (by rfl) (by rfl) (outB ?_); first | rfl | grind [inB])
      | (refine ret1 (by rfl) (by rfl) (outI ?_); first | rfl | omega | grind [inB])
      | (refine ret1 (by rfl) (by rfl) (outB ?_)) | (refine ret1 (by rfl) (by rfl) (outI ?_)))
  all_goals (conv => whnf)
  all_goals
    have hxl : (x.far.map Early.c).length = x.far.length := by simp
    refine ⟨[0, 1, 2, 3, 4, 5, 6, 7, 8, 9, 10, 11, 12, 13, 14, 15, 16, 17, 18, 19, 20, 21, 22, 23, 24, 25, 26, 27, 28, 29, 30, 31, 32, 33, 34, 35, 36, 37, 38, 39, 40], [(1, [3]), (4, [2]), (10, [7]), (16, [7]), (17, [7]), (31, [7])], (by kernel_rfl), ?_⟩
    (conv => whnf)
    repeat' ((conv => whnf); first
        | ((refine goE (earFree_r x (by omega) (by omega)) ?_; rintro _ ⟨n9, hn9, rfl⟩))
        | ((obtain ⟨r2, hr2⟩ := map_get2 Early.c x.far (x.far.length - 1) (by omega); refine goIdx r2.c (by omega) rfl (by rw [show ((((x.far.map Early.c).length : Nat) : Int) - 1).toNat = x.far.length - 1 by omega]; exact hr2) ?_))
        | ((refine retE (by rfl) (by rfl) ⟨_, ?_, rfl⟩; refine mkEnd ?_ rfl; (constructor <;> (try dsimp only) <;> first | omega | (simp; done) | (simp; omega))))
        | (split <;> rename_i hq <;> (try simp only [Bool.not_eq_eq_eq_not, Bool.not_true, Bool.not_false, decide_eq_true_eq, decide_eq_false_iff_not, inB_t, inB_f, bytes_len, List.length_map, Bool.and_eq_true, Bool.and_eq_false_iff, and_true] at hq) <;> (try (exfalso; first | omega | (simp_all; done))))
        | (refine goW (by first | omega | (simp; omega)) (by first | omega | (simp; omega)) ?_)
        | (refine ret1 (by rfl) (by rfl) (outB ?_); first | rfl | grind [inB])
        | (refine ret1 (by rfl) (by rfl) (outI ?_); first | rfl | omega | grind [inB])
        | (refine ret1 (by rfl) (by rfl) (outB ?_)) | (refine ret1 (by rfl) (by rfl) (outI ?_)))
end Go.Proofs.Ytpeejmolbmhjjaa.Sx
end

section
namespace Go.Proofs.Ytpeejmolbmhjjaa.Sx
set_option linter.unusedSimpArgs false
set_option linter.unusedVariables false
open Go
set_option maxRecDepth 100000
set_option maxHeartbeats 0
theorem arm_x {a1 a2 a3 a4 a5 a6 m1 m3 m4 r1 r2 a7 a8 a9 c1 c2 c3 : Int} {m2 r3 : List Int} {m5 : List Rng} {r4 : List Early} {b1 b2 b3 : Bool} {now : Int} {on : Bool} (h : End.wk ⟨a1, a2, a3, a4, a5, a6, ⟨m1, m2, m3, m4, m5⟩, ⟨r1, r2, r3, r4⟩, b1, b2, b3, a7, a8, a9, ⟨c1, c2, c3⟩⟩) (hn : 0 ≤ now ∧ now ≤ 1000000) : Fx 165 [(true, [.i .i64 a1, .i .i64 a2, .i .i64 a3, .i .i64 a4, .i .i64 a5, .i .i64 a6, .i .i64 m1, .lst 0 0 5 (bytes m2), .i .i64 m3, .i .i64 m4, .lst 0 0 108 (m5.map Rng.c), .i .i64 r1, .i .i64 r2, .lst 0 0 5 (bytes r3), .lst 0 0 138 (r4.map Early.c), .b b1, .b b2, .b b3, .i .i64 a7, .i .i64 a8, .i .i64 a9, .i .i64 c1, .i .i64 c2, .i .i64 c3]), int now, bool on] fun v => ∃ p, EndP p ∧ v = .pv p := arm_r ⟨a1, a2, a3, a4, a5, a6, ⟨m1, m2, m3, m4, m5⟩, ⟨r1, r2, r3, r4⟩, b1, b2, b3, a7, a8, a9, ⟨c1, c2, c3⟩⟩ now on h hn
theorem segment_x {a1 a2 a3 a4 a5 a6 m1 m3 m4 r1 r2 a7 a8 a9 c1 c2 c3 : Int} {m2 r3 : List Int} {m5 : List Rng} {r4 : List Early} {b1 b2 b3 : Bool} {at_ : Int} (h : End.wk ⟨a1, a2, a3, a4, a5, a6, ⟨m1, m2, m3, m4, m5⟩, ⟨r1, r2, r3, r4⟩, b1, b2, b3, a7, a8, a9, ⟨c1, c2, c3⟩⟩) : Fx 170 [(true, [.i .i64 a1, .i .i64 a2, .i .i64 a3, .i .i64 a4, .i .i64 a5, .i .i64 a6, .i .i64 m1, .lst 0 0 5 (bytes m2), .i .i64 m3, .i .i64 m4, .lst 0 0 108 (m5.map Rng.c), .i .i64 r1, .i .i64 r2, .lst 0 0 5 (bytes r3), .lst 0 0 138 (r4.map Early.c), .b b1, .b b2, .b b3, .i .i64 a7, .i .i64 a8, .i .i64 a9, .i .i64 c1, .i .i64 c2, .i .i64 c3]), int at_] fun v => ∃ p, SegP p ∧ v = .pv p := segment_r ⟨a1, a2, a3, a4, a5, a6, ⟨m1, m2, m3, m4, m5⟩, ⟨r1, r2, r3, r4⟩, b1, b2, b3, a7, a8, a9, ⟨c1, c2, c3⟩⟩ at_ h
theorem first_x {a1 a2 a3 a4 a5 a6 m1 m3 m4 r1 r2 a7 a8 a9 c1 c2 c3 : Int} {m2 r3 : List Int} {m5 : List Rng} {r4 : List Early} {b1 b2 b3 : Bool}  (h : End.wk ⟨a1, a2, a3, a4, a5, a6, ⟨m1, m2, m3, m4, m5⟩, ⟨r1, r2, r3, r4⟩, b1, b2, b3, a7, a8, a9, ⟨c1, c2, c3⟩⟩) : Fx 166 [(true, [.i .i64 a1, .i .i64 a2, .i .i64 a3, .i .i64 a4, .i .i64 a5, .i .i64 a6, .i .i64 m1, .lst 0 0 5 (bytes m2), .i .i64 m3, .i .i64 m4, .lst 0 0 108 (m5.map Rng.c), .i .i64 r1, .i .i64 r2, .lst 0 0 5 (bytes r3), .lst 0 0 138 (r4.map Early.c), .b b1, .b b2, .b b3, .i .i64 a7, .i .i64 a8, .i .i64 a9, .i .i64 c1, .i .i64 c2, .i .i64 c3])] fun v => ∃ p, SegP p ∧ v = .pv p := first_r ⟨a1, a2, a3, a4, a5, a6, ⟨m1, m2, m3, m4, m5⟩, ⟨r1, r2, r3, r4⟩, b1, b2, b3, a7, a8, a9, ⟨c1, c2, c3⟩⟩ h
theorem last_x {a1 a2 a3 a4 a5 a6 m1 m3 m4 r1 r2 a7 a8 a9 c1 c2 c3 : Int} {m2 r3 : List Int} {m5 : List Rng} {r4 : List Early} {b1 b2 b3 : Bool}  (h : End.wk ⟨a1, a2, a3, a4, a5, a6, ⟨m1, m2, m3, m4, m5⟩, ⟨r1, r2, r3, r4⟩, b1, b2, b3, a7, a8, a9, ⟨c1, c2, c3⟩⟩) : Fx 173 [(true, [.i .i64 a1, .i .i64 a2, .i .i64 a3, .i .i64 a4, .i .i64 a5, .i .i64 a6, .i .i64 m1, .lst 0 0 5 (bytes m2), .i .i64 m3, .i .i64 m4, .lst 0 0 108 (m5.map Rng.c), .i .i64 r1, .i .i64 r2, .lst 0 0 5 (bytes r3), .lst 0 0 138 (r4.map Early.c), .b b1, .b b2, .b b3, .i .i64 a7, .i .i64 a8, .i .i64 a9, .i .i64 c1, .i .i64 c2, .i .i64 c3])] fun v => ∃ p, SegP p ∧ v = .pv p := last_r ⟨a1, a2, a3, a4, a5, a6, ⟨m1, m2, m3, m4, m5⟩, ⟨r1, r2, r3, r4⟩, b1, b2, b3, a7, a8, a9, ⟨c1, c2, c3⟩⟩ h
theorem bytesE_x {a1 a2 a3 a4 a5 a6 m1 m3 m4 r1 r2 a7 a8 a9 c1 c2 c3 : Int} {m2 r3 : List Int} {m5 : List Rng} {r4 : List Early} {b1 b2 b3 : Bool}  (h : End.wk ⟨a1, a2, a3, a4, a5, a6, ⟨m1, m2, m3, m4, m5⟩, ⟨r1, r2, r3, r4⟩, b1, b2, b3, a7, a8, a9, ⟨c1, c2, c3⟩⟩) : FnM Try.prog 167 [] [(true, [.i .i64 a1, .i .i64 a2, .i .i64 a3, .i .i64 a4, .i .i64 a5, .i .i64 a6, .i .i64 m1, .lst 0 0 5 (bytes m2), .i .i64 m3, .i .i64 m4, .lst 0 0 108 (m5.map Rng.c), .i .i64 r1, .i .i64 r2, .lst 0 0 5 (bytes r3), .lst 0 0 138 (r4.map Early.c), .b b1, .b b2, .b b3, .i .i64 a7, .i .i64 a8, .i .i64 a9, .i .i64 c1, .i .i64 c2, .i .i64 c3])] (ES 100) := bytesE_l ⟨a1, a2, a3, a4, a5, a6, ⟨m1, m2, m3, m4, m5⟩, ⟨r1, r2, r3, r4⟩, b1, b2, b3, a7, a8, a9, ⟨c1, c2, c3⟩⟩ h
theorem flush_x {a1 a2 a3 a4 a5 a6 m1 m3 m4 r1 r2 a7 a8 a9 c1 c2 c3 : Int} {m2 r3 : List Int} {m5 : List Rng} {r4 : List Early} {b1 b2 b3 : Bool}  (h : End.wk ⟨a1, a2, a3, a4, a5, a6, ⟨m1, m2, m3, m4, m5⟩, ⟨r1, r2, r3, r4⟩, b1, b2, b3, a7, a8, a9, ⟨c1, c2, c3⟩⟩) : FnM Try.prog 177 [] [(true, [.i .i64 a1, .i .i64 a2, .i .i64 a3, .i .i64 a4, .i .i64 a5, .i .i64 a6, .i .i64 m1, .lst 0 0 5 (bytes m2), .i .i64 m3, .i .i64 m4, .lst 0 0 108 (m5.map Rng.c), .i .i64 r1, .i .i64 r2, .lst 0 0 5 (bytes r3), .lst 0 0 138 (r4.map Early.c), .b b1, .b b2, .b b3, .i .i64 a7, .i .i64 a8, .i .i64 a9, .i .i64 c1, .i .i64 c2, .i .i64 c3])] (ES 101) := flush_l ⟨a1, a2, a3, a4, a5, a6, ⟨m1, m2, m3, m4, m5⟩, ⟨r1, r2, r3, r4⟩, b1, b2, b3, a7, a8, a9, ⟨c1, c2, c3⟩⟩ h
theorem took_x {a1 a2 a3 a4 a5 a6 m1 m3 m4 r1 r2 a7 a8 a9 c1 c2 c3 : Int} {m2 r3 : List Int} {m5 : List Rng} {r4 : List Early} {b1 b2 b3 : Bool} {s : Seg} (h : End.wk ⟨a1, a2, a3, a4, a5, a6, ⟨m1, m2, m3, m4, m5⟩, ⟨r1, r2, r3, r4⟩, b1, b2, b3, a7, a8, a9, ⟨c1, c2, c3⟩⟩) (hs : s.wk) : Fx 178 [(true, [.i .i64 a1, .i .i64 a2, .i .i64 a3, .i .i64 a4, .i .i64 a5, .i .i64 a6, .i .i64 m1, .lst 0 0 5 (bytes m2), .i .i64 m3, .i .i64 m4, .lst 0 0 108 (m5.map Rng.c), .i .i64 r1, .i .i64 r2, .lst 0 0 5 (bytes r3), .lst 0 0 138 (r4.map Early.c), .b b1, .b b2, .b b3, .i .i64 a7, .i .i64 a8, .i .i64 a9, .i .i64 c1, .i .i64 c2, .i .i64 c3]), s.v] fun v => ∃ p x, EndP p ∧ v = .tup [p, bool x] := took_r ⟨a1, a2, a3, a4, a5, a6, ⟨m1, m2, m3, m4, m5⟩, ⟨r1, r2, r3, r4⟩, b1, b2, b3, a7, a8, a9, ⟨c1, c2, c3⟩⟩ s h hs
theorem heardS_x {a1 a2 a3 a4 a5 a6 m1 m3 m4 r1 r2 a7 a8 a9 c1 c2 c3 : Int} {m2 r3 : List Int} {m5 : List Rng} {r4 : List Early} {b1 b2 b3 : Bool} {s : Seg} (h : End.wk ⟨a1, a2, a3, a4, a5, a6, ⟨m1, m2, m3, m4, m5⟩, ⟨r1, r2, r3, r4⟩, b1, b2, b3, a7, a8, a9, ⟨c1, c2, c3⟩⟩) (hs : s.wk) : Fx 179 [(true, [.i .i64 a1, .i .i64 a2, .i .i64 a3, .i .i64 a4, .i .i64 a5, .i .i64 a6, .i .i64 m1, .lst 0 0 5 (bytes m2), .i .i64 m3, .i .i64 m4, .lst 0 0 108 (m5.map Rng.c), .i .i64 r1, .i .i64 r2, .lst 0 0 5 (bytes r3), .lst 0 0 138 (r4.map Early.c), .b b1, .b b2, .b b3, .i .i64 a7, .i .i64 a8, .i .i64 a9, .i .i64 c1, .i .i64 c2, .i .i64 c3]), s.v] fun v => ∃ p, EndP p ∧ v = .pv p := heardS_r ⟨a1, a2, a3, a4, a5, a6, ⟨m1, m2, m3, m4, m5⟩, ⟨r1, r2, r3, r4⟩, b1, b2, b3, a7, a8, a9, ⟨c1, c2, c3⟩⟩ s h hs
theorem wait_x {a1 a2 a3 a4 a5 a6 m1 m3 m4 r1 r2 a7 a8 a9 c1 c2 c3 : Int} {m2 r3 : List Int} {m5 : List Rng} {r4 : List Early} {b1 b2 b3 : Bool}  (h : End.wk ⟨a1, a2, a3, a4, a5, a6, ⟨m1, m2, m3, m4, m5⟩, ⟨r1, r2, r3, r4⟩, b1, b2, b3, a7, a8, a9, ⟨c1, c2, c3⟩⟩) : Fx 176 [(true, [.i .i64 a1, .i .i64 a2, .i .i64 a3, .i .i64 a4, .i .i64 a5, .i .i64 a6, .i .i64 m1, .lst 0 0 5 (bytes m2), .i .i64 m3, .i .i64 m4, .lst 0 0 108 (m5.map Rng.c), .i .i64 r1, .i .i64 r2, .lst 0 0 5 (bytes r3), .lst 0 0 138 (r4.map Early.c), .b b1, .b b2, .b b3, .i .i64 a7, .i .i64 a8, .i .i64 a9, .i .i64 c1, .i .i64 c2, .i .i64 c3])] fun v => ∃ n : Int, (r1 ≤ n ∧ n ≤ r1 + 1) ∧ v = .pv (int n) := wait_r ⟨a1, a2, a3, a4, a5, a6, ⟨m1, m2, m3, m4, m5⟩, ⟨r1, r2, r3, r4⟩, b1, b2, b3, a7, a8, a9, ⟨c1, c2, c3⟩⟩ (by have := h.next; dsimp only at this ⊢; omega)
theorem told_x {a1 a2 a3 a4 a5 a6 m1 m3 m4 r1 r2 a7 a8 a9 c1 c2 c3 : Int} {m2 r3 : List Int} {m5 : List Rng} {r4 : List Early} {b1 b2 b3 : Bool}  (h : End.wk ⟨a1, a2, a3, a4, a5, a6, ⟨m1, m2, m3, m4, m5⟩, ⟨r1, r2, r3, r4⟩, b1, b2, b3, a7, a8, a9, ⟨c1, c2, c3⟩⟩) : Fx 171 [(true, [.i .i64 a1, .i .i64 a2, .i .i64 a3, .i .i64 a4, .i .i64 a5, .i .i64 a6, .i .i64 m1, .lst 0 0 5 (bytes m2), .i .i64 m3, .i .i64 m4, .lst 0 0 108 (m5.map Rng.c), .i .i64 r1, .i .i64 r2, .lst 0 0 5 (bytes r3), .lst 0 0 138 (r4.map Early.c), .b b1, .b b2, .b b3, .i .i64 a7, .i .i64 a8, .i .i64 a9, .i .i64 c1, .i .i64 c2, .i .i64 c3])] fun v => ∃ n : Int, (0 ≤ n ∧ n ≤ 1) ∧ v = .pv (int n) := told_r ⟨a1, a2, a3, a4, a5, a6, ⟨m1, m2, m3, m4, m5⟩, ⟨r1, r2, r3, r4⟩, b1, b2, b3, a7, a8, a9, ⟨c1, c2, c3⟩⟩
def ES2 (v : TV) : Prop := ∃ p q, EndP p ∧ SegsP 200 q ∧ v = .tup [p, q]
theorem listen_r (e : End) (h : e.small) : Fx 137 [e.v] fun v => ∃ p x, EndP p ∧ v = .tup [p, bool x] := by
  by_cases hok : e.okP
  · obtain ⟨w1, w2, w3, w4, w5, w6, w7, w8, w9, w10⟩ := End.ok_wk hok
    refine fn_of_vc tab_ok mixed Try.call137 Try.func137 rfl [] _ _ (by kernel_rfl) rfl rfl rfl ?_
    (conv => whnf); refine goP (endOk_ok' e h) ?_
    rw [decide_eq_true hok]
    (conv => whnf); refine goP (copyE_ok e h) ?_
    repeat' ((conv => whnf); first
        | ((refine retE (by rfl) (by rfl) ⟨_, _, ?_, rfl⟩; refine mkEnd ?_ rfl; (constructor <;> (try dsimp only) <;> first | omega | (simp; done) | (simp; omega))))
        | (split <;> rename_i hq <;> (try simp only [Bool.not_eq_eq_eq_not, Bool.not_true, Bool.not_false, decide_eq_true_eq, decide_eq_false_iff_not, inB_t, inB_f, bytes_len, List.length_map, Bool.and_eq_true, Bool.and_eq_false_iff, and_true] at hq) <;> (try (exfalso; first | omega | (simp_all; done))))
        | (refine goW (by first | omega | (simp; omega)) (by first | omega | (simp; omega)) ?_)
        | (refine ret1 (by rfl) (by rfl) (outB ?_); first | rfl | grind [inB])
        | (refine ret1 (by rfl) (by rfl) (outI ?_); first | rfl | omega | grind [inB])
        | (refine ret1 (by rfl) (by rfl) (outB ?_)) | (refine ret1 (by rfl) (by rfl) (outI ?_)))
  · refine fn_of_vc tab_ok mixed Try.call137 Try.func137 rfl [] _ _ (by kernel_rfl) rfl rfl rfl ?_
    (conv => whnf); refine goP (endOk_ok' e h) ?_
    rw [decide_eq_false hok]
    (conv => whnf)
    (refine retE (by rfl) (by rfl) ⟨_, _, ?_, rfl⟩; refine mkEnd (m2 := []) (r3 := []) (m5 := []) (r4 := []) ?_ rfl; (constructor <;> (try dsimp only) <;> first | omega | (simp; done) | (simp; omega)))
theorem connect_r (e : End) (a b now : Int) (h : e.small) : Fx 138 [e.v, int a, int b, int now] ES2 := by
  by_cases hok : e.okP
  · obtain ⟨w1, w2, w3, w4, w5, w6, w7, w8, w9, w10⟩ := End.ok_wk hok
    refine fn_of_vc tab_ok mixed Try.call138 Try.func138 rfl [] _ _ (by kernel_rfl) rfl rfl rfl ?_
    (conv => whnf); refine goP (endOk_ok' e h) ?_
    rw [decide_eq_true hok]
    repeat' ((conv => whnf); first
        | (refine goP (l1In_ok _ _ _) ?_)
        | (refine goP (copyE_ok e h) ?_)
        | ((refine retE (by rfl) (by rfl) ⟨_, _, ?_, ⟨[], by simp, by simp, rfl⟩, rfl⟩; refine mkEnd (m2 := []) (r3 := []) (m5 := []) (r4 := []) ?_ rfl; (constructor <;> (try dsimp only) <;> first | omega | (simp; done) | (simp; omega))))
        | ((refine retE (by rfl) (by rfl) ⟨_, _, ?_, ⟨[], by simp, by simp, rfl⟩, rfl⟩; refine mkEnd ?_ rfl; (constructor <;> (try dsimp only) <;> first | omega | (simp; done) | (simp; omega))))
        | ((refine goE (arm_x (by (constructor <;> (try dsimp only) <;> first | omega | (simp; done) | (simp; omega))) (by omega)) ?_; rintro _ ⟨_, ⟨e2, he2, rfl⟩, rfl⟩))
        | (split <;> rename_i hq <;> (try simp only [Bool.not_eq_eq_eq_not, Bool.not_true, Bool.not_false, decide_eq_true_eq, decide_eq_false_iff_not, inB_t, inB_f, bytes_len, List.length_map, Bool.and_eq_true, Bool.and_eq_false_iff, and_true] at hq) <;> (try (exfalso; first | omega | (simp_all; done))))
        | (refine goW (by first | omega | (simp; omega)) (by first | omega | (simp; omega)) ?_)
        | (refine ret1 (by rfl) (by rfl) (outB ?_); first | rfl | grind [inB])
        | (refine ret1 (by rfl) (by rfl) (outI ?_); first | rfl | omega | grind [inB])
        | (refine ret1 (by rfl) (by rfl) (outB ?_)) | (refine ret1 (by rfl) (by rfl) (outI ?_)))
    all_goals (conv => whnf)
    refine ⟨[0, 1, 2, 3, 4, 5], [(0, [10]), (1, [10]), (4, [8])], (by kernel_rfl), ?_⟩
    (conv => whnf)
    refine goE (first_r e2 he2) ?_
    rintro _ ⟨_, ⟨s, hs, rfl⟩, rfl⟩
    (conv => whnf)
    exact retE (by rfl) (by rfl) ⟨_, _, ⟨e2, he2, rfl⟩, ⟨[s], by simpa using hs, by simp, rfl⟩, rfl⟩
  · refine fn_of_vc tab_ok mixed Try.call138 Try.func138 rfl [] _ _ (by kernel_rfl) rfl rfl rfl ?_
    (conv => whnf); refine goP (endOk_ok' e h) ?_
    rw [decide_eq_false hok]
    (conv => whnf)
    (refine retE (by rfl) (by rfl) ⟨_, _, ?_, ⟨[], by simp, by simp, rfl⟩, rfl⟩; refine mkEnd (m2 := []) (r3 := []) (m5 := []) (r4 := []) ?_ rfl; (constructor <;> (try dsimp only) <;> first | omega | (simp; done) | (simp; omega)))
end Go.Proofs.Ytpeejmolbmhjjaa.Sx
end

section
namespace Go.Proofs.Ytpeejmolbmhjjaa.Sx
set_option linter.unusedSimpArgs false
set_option linter.unusedVariables false
open Go
set_option maxRecDepth 100000
set_option maxHeartbeats 0
theorem write_r (e : End) (d : List Int) (now : Int) (h : e.small) (hd : d.length < 1000000) : Fx 139 [e.v, byts d, int now] fun v => ∃ p n q, EndP p ∧ SegsP 200 q ∧ v = .tup [p, int n, q] := by
  by_cases hok : e.okP
  · obtain ⟨w1, w2, w3, w4, w5, w6, w7, w8, w9, w10⟩ := End.ok_wk hok
    refine fn_of_vc tab_ok mixed Try.call139 Try.func139 rfl [] _ _ (by kernel_rfl) rfl rfl rfl ?_
    (conv => whnf); refine goP (endOk_ok' e h) ?_
    rw [decide_eq_true hok]
    repeat' ((conv => whnf); first
        | (refine goP (l1In_ok _ _ _) ?_)
        | (refine goP (copyE_ok e h) ?_)
        | ((refine goE (mouthWrite_r e.out d (by omega) (by omega) hd) ?_; rintro _ ⟨m, n, ⟨q1, q2, q3, q4, q5⟩, hn, rfl⟩))
        | ((refine ⟨[], _, bytesE_x (by (constructor <;> (try dsimp only) <;> first | omega | (simp; done) | (simp; omega))), trivial, ?_⟩; rintro o ⟨e3, l3, v3, he3, hl3, hn3, rfl⟩ _))
        | ((refine goE (arm_r e3 now false he3 (by omega)) ?_; rintro _ ⟨_, ⟨e2, he2, rfl⟩, rfl⟩))
        | (exact retE (by rfl) (by rfl) ⟨_, _, _, ⟨e2, he2, rfl⟩, ⟨l3, hl3, by omega, rfl⟩, rfl⟩)
        | ((refine retE (by rfl) (by rfl) ⟨_, _, _, ?_, ⟨[], by simp, by simp, rfl⟩, rfl⟩; refine mkEnd (m2 := []) (r3 := []) (m5 := []) (r4 := []) ?_ rfl; (constructor <;> (try dsimp only) <;> first | omega | (simp; done) | (simp; omega))))
        | ((refine retE (by rfl) (by rfl) ⟨_, _, _, ?_, ⟨[], by simp, by simp, rfl⟩, rfl⟩; refine mkEnd ?_ rfl; (constructor <;> (try dsimp only) <;> first | omega | (simp; done) | (simp; omega))))
        | (split <;> rename_i hq <;> (try simp only [Bool.not_eq_eq_eq_not, Bool.not_true, Bool.not_false, decide_eq_true_eq, decide_eq_false_iff_not, inB_t, inB_f, bytes_len, List.length_map, Bool.and_eq_true, Bool.and_eq_false_iff, and_true] at hq) <;> (try (exfalso; first | omega | (simp_all; done))))
        | (refine goW (by first | omega | (simp; omega)) (by first | omega | (simp; omega)) ?_)
        | (refine ret1 (by rfl) (by rfl) (outB ?_); first | rfl | grind [inB])
        | (refine ret1 (by rfl) (by rfl) (outI ?_); first | rfl | omega | grind [inB])
        | (refine ret1 (by rfl) (by rfl) (outB ?_)) | (refine ret1 (by rfl) (by rfl) (outI ?_)))
  · refine fn_of_vc tab_ok mixed Try.call139 Try.func139 rfl [] _ _ (by kernel_rfl) rfl rfl rfl ?_
    (conv => whnf); refine goP (endOk_ok' e h) ?_
    rw [decide_eq_false hok]
    (conv => whnf)
    (refine retE (by rfl) (by rfl) ⟨_, _, _, ?_, ⟨[], by simp, by simp, rfl⟩, rfl⟩; refine mkEnd (m2 := []) (r3 := []) (m5 := []) (r4 := []) ?_ rfl; (constructor <;> (try dsimp only) <;> first | omega | (simp; done) | (simp; omega)))
theorem close_r (e : End) (now : Int) (h : e.small) : Fx 143 [e.v, int now] ES2 := by
  by_cases hok : e.okP
  · obtain ⟨w1, w2, w3, w4, w5, w6, w7, w8, w9, w10⟩ := End.ok_wk hok
    refine fn_of_vc tab_ok mixed Try.call143 Try.func143 rfl [] _ _ (by kernel_rfl) rfl rfl rfl ?_
    (conv => whnf); refine goP (endOk_ok' e h) ?_
    rw [decide_eq_true hok]
    repeat' ((conv => whnf); first
        | (refine goP (l1In_ok _ _ _) ?_)
        | (refine goP (copyE_ok e h) ?_)
        | ((refine goE (last_x (by (constructor <;> (try dsimp only) <;> first | omega | (simp; done) | (simp; omega)))) ?_; rintro _ ⟨_, ⟨s, hs, rfl⟩, rfl⟩))
        | (refine ⟨by show (0 + 1) * 96 ≤ 140737488355328; omega, rfl, rfl, ?_⟩)
        | ((refine goE (arm_x (by (constructor <;> (try dsimp only) <;> first | omega | (simp; done) | (simp; omega))) (by omega)) ?_; rintro _ ⟨_, ⟨e2, he2, rfl⟩, rfl⟩))
        | (exact retE (by rfl) (by rfl) ⟨_, _, ⟨e2, he2, rfl⟩, ⟨[], by simp, by simp, rfl⟩, rfl⟩)
        | (exact retE (by rfl) (by rfl) ⟨_, _, ⟨e2, he2, rfl⟩, ⟨[s], by simpa using hs, by simp, rfl⟩, rfl⟩)
        | ((refine retE (by rfl) (by rfl) ⟨_, _, ?_, ⟨[], by simp, by simp, rfl⟩, rfl⟩; refine mkEnd (m2 := []) (r3 := []) (m5 := []) (r4 := []) ?_ rfl; (constructor <;> (try dsimp only) <;> first | omega | (simp; done) | (simp; omega))))
        | (split <;> rename_i hq <;> (try simp only [Bool.not_eq_eq_eq_not, Bool.not_true, Bool.not_false, decide_eq_true_eq, decide_eq_false_iff_not, inB_t, inB_f, bytes_len, List.length_map, Bool.and_eq_true, Bool.and_eq_false_iff, and_true] at hq) <;> (try (exfalso; first | omega | (simp_all; done))))
        | (refine goW (by first | omega | (simp; omega)) (by first | omega | (simp; omega)) ?_)
        | (refine ret1 (by rfl) (by rfl) (outB ?_); first | rfl | grind [inB])
        | (refine ret1 (by rfl) (by rfl) (outI ?_); first | rfl | omega | grind [inB])
        | (refine ret1 (by rfl) (by rfl) (outB ?_)) | (refine ret1 (by rfl) (by rfl) (outI ?_)))
  · refine fn_of_vc tab_ok mixed Try.call143 Try.func143 rfl [] _ _ (by kernel_rfl) rfl rfl rfl ?_
    (conv => whnf); refine goP (endOk_ok' e h) ?_
    rw [decide_eq_false hok]
    (conv => whnf)
    (refine retE (by rfl) (by rfl) ⟨_, _, ?_, ⟨[], by simp, by simp, rfl⟩, rfl⟩; refine mkEnd (m2 := []) (r3 := []) (m5 := []) (r4 := []) ?_ rfl; (constructor <;> (try dsimp only) <;> first | omega | (simp; done) | (simp; omega)))
theorem read_r (e : End) (many now : Int) (h : e.small) : Fx 141 [e.v, int many, int now] fun v => ∃ p, ∃ d : List Int, ∃ q, EndP p ∧ SegsP 200 q ∧ v = .tup [p, byts d, q] := by
  by_cases hok : e.okP
  · obtain ⟨w1, w2, w3, w4, w5, w6, w7, w8, w9, w10⟩ := End.ok_wk hok
    refine fn_of_vc tab_ok mixed Try.call141 Try.func141 rfl [] _ _ (by kernel_rfl) rfl rfl rfl ?_
    (conv => whnf); refine goP (endOk_ok' e h) ?_
    rw [decide_eq_true hok]
    repeat' ((conv => whnf); first
        | (refine goP (l1In_ok _ _ _) ?_)
        | (refine goP (copyE_ok e h) ?_)
        | ((refine goE (earRead_r e.inn many (by omega) (by omega)) ?_; rintro _ ⟨x, b, ⟨x1, x2, x3, x4⟩, hb, rfl⟩))
        | ((refine goE (earFree_r e.inn (by omega) (by omega)) ?_; rintro _ ⟨n1, hn1, rfl⟩))
        | ((refine goE (earFree_r x (by omega) (by omega)) ?_; rintro _ ⟨n2, hn2, rfl⟩))
        | ((refine retE (by rfl) (by rfl) ⟨_, [], _, ?_, ⟨[], by simp, by simp, rfl⟩, rfl⟩; refine mkEnd (m2 := []) (r3 := []) (m5 := []) (r4 := []) ?_ rfl; (constructor <;> (try dsimp only) <;> first | omega | (simp; done) | (simp; omega))))
        | ((refine retE (by rfl) (by rfl) ⟨_, [], _, ?_, ⟨[], by simp, by simp, rfl⟩, rfl⟩; refine mkEnd ?_ rfl; (constructor <;> (try dsimp only) <;> first | omega | (simp; done) | (simp; omega))))
        | ((refine retE (by rfl) (by rfl) ⟨_, b, _, ?_, ⟨[], by simp, by simp, rfl⟩, rfl⟩; refine mkEnd ?_ rfl; (constructor <;> (try dsimp only) <;> first | omega | (simp; done) | (simp; omega))))
        | (split <;> rename_i hq <;> (try simp only [Bool.not_eq_eq_eq_not, Bool.not_true, Bool.not_false, decide_eq_true_eq, decide_eq_false_iff_not, inB_t, inB_f, bytes_len, List.length_map, Bool.and_eq_true, Bool.and_eq_false_iff, and_true] at hq) <;> (try (exfalso; first | omega | (simp_all; done))))
        | (refine goW (by first | omega | (simp; omega)) (by first | omega | (simp; omega)) ?_)
        | (refine ret1 (by rfl) (by rfl) (outB ?_); first | rfl | grind [inB])
        | (refine ret1 (by rfl) (by rfl) (outI ?_); first | rfl | omega | grind [inB])
        | (refine ret1 (by rfl) (by rfl) (outB ?_)) | (refine ret1 (by rfl) (by rfl) (outI ?_)))
    all_goals (conv => whnf)
    all_goals
      refine ⟨[0, 1, 2, 3, 4, 5, 6, 7, 8, 9, 10, 11, 12, 13, 14, 15, 16, 17], [(0, [9]), (2, [9]), (5, [9]), (8, [9]), (10, [9]), (15, [6])], (by kernel_rfl), ?_⟩
      (conv => whnf)
      repeat' ((conv => whnf); first
          | ((refine goE (told_x (by (constructor <;> (try dsimp only) <;> first | omega | (simp; done) | (simp; omega)))) ?_; rintro _ ⟨n3, hn3, rfl⟩))
          | ((refine goE (segment_x (by (constructor <;> (try dsimp only) <;> first | omega | (simp; done) | (simp; omega)))) ?_; rintro _ ⟨_, ⟨s, hs, rfl⟩, rfl⟩))
          | ((refine retE (by rfl) (by rfl) ⟨_, b, _, ?_, ⟨[s], by simpa using hs, by simp, rfl⟩, rfl⟩; refine mkEnd ?_ rfl; (constructor <;> (try dsimp only) <;> first | omega | (simp; done) | (simp; omega))))
          | (split <;> rename_i hq <;> (try simp only [Bool.not_eq_eq_eq_not, Bool.not_true, Bool.not_false, decide_eq_true_eq, decide_eq_false_iff_not, inB_t, inB_f, bytes_len, List.length_map, Bool.and_eq_true, Bool.and_eq_false_iff, and_true] at hq) <;> (try (exfalso; first | omega | (simp_all; done))))
          | (refine goW (by first | omega | (simp; omega)) (by first | omega | (simp; omega)) ?_)
          | (refine ret1 (by rfl) (by rfl) (outB ?_); first | rfl | grind [inB])
          | (refine ret1 (by rfl) (by rfl) (outI ?_); first | rfl | omega | grind [inB])
          | (refine ret1 (by rfl) (by rfl) (outB ?_)) | (refine ret1 (by rfl) (by rfl) (outI ?_)))
  · refine fn_of_vc tab_ok mixed Try.call141 Try.func141 rfl [] _ _ (by kernel_rfl) rfl rfl rfl ?_
    (conv => whnf); refine goP (endOk_ok' e h) ?_
    rw [decide_eq_false hok]
    (conv => whnf)
    (refine retE (by rfl) (by rfl) ⟨_, [], _, ?_, ⟨[], by simp, by simp, rfl⟩, rfl⟩; refine mkEnd (m2 := []) (r3 := []) (m5 := []) (r4 := []) ?_ rfl; (constructor <;> (try dsimp only) <;> first | omega | (simp; done) | (simp; omega)))
end Go.Proofs.Ytpeejmolbmhjjaa.Sx
end

section
namespace Go.Proofs.Ytpeejmolbmhjjaa.Sx
set_option linter.unusedSimpArgs false
set_option linter.unusedVariables false
open Go
set_option maxRecDepth 100000
set_option maxHeartbeats 0
theorem tick_r (e : End) (now : Int) (h : e.small) : Fx 142 [e.v, int now] ES2 := by
  by_cases hok : e.okP
  · obtain ⟨w1, w2, w3, w4, w5, w6, w7, w8, w9, w10⟩ := End.ok_wk hok
    have htr : 0 ≤ e.tries ∧ e.tries ≤ 8 := by
      obtain ⟨h1, h2, h3, h4, h5, h6, h7, h8, h9, h10, h11, h12, _⟩ := hok
      exact h12
    have hwt : e.pulse.wait ≤ 100000 := by
      obtain ⟨h1, h2, h3, h4, h5, h6, h7, h8, h9, h10, h11, h12, _⟩ := hok
      simp only [Clock.ok, Bool.and_eq_true, inB_iff] at h10
      omega
    have hmo : e.out.ok = true := by
      obtain ⟨h1, h2, h3, h4, h5, h6, h7, h8, h9, h10, h11, h12, _⟩ := hok
      exact h7
    have ag := mouthAgain_ok' e.out 12 (by omega) (by omega)
    rw [if_pos ⟨hmo, by omega, by omega⟩] at ag
    have hag : (e.out.keep.take (e.out.againN 12).toNat).length ≤ 100 := by simp; omega
    generalize e.out.keep.take (e.out.againN 12).toNat = bs at *
    refine fn_of_vc tab_ok mixed Try.call142 Try.func142 rfl [] _ _ (by kernel_rfl) rfl rfl rfl ?_
    (conv => whnf); refine goP (endOk_ok' e h) ?_
    rw [decide_eq_true hok]
    repeat' ((conv => whnf); first
        | (refine goP (l1In_ok _ _ _) ?_)
        | (refine goP (copyE_ok e h) ?_)
        | ((refine goE (clockLate_r e.pulse (by omega)) ?_; rintro _ ⟨k1, k2, k3, hk, rfl⟩))
        | (refine goP ag ?_)
        | ((refine goE (segment_x (by (constructor <;> (try dsimp only) <;> first | omega | (simp; done) | (simp; omega)))) ?_; rintro _ ⟨_, ⟨s, hs, rfl⟩, rfl⟩))
        | ((refine retE (by rfl) (by rfl) ⟨_, _, ?_, ⟨[], by simp, by simp, rfl⟩, rfl⟩; refine mkEnd (m2 := []) (r3 := []) (m5 := []) (r4 := []) ?_ rfl; (constructor <;> (try dsimp only) <;> first | omega | (simp; done) | (simp; omega))))
        | ((refine retE (by rfl) (by rfl) ⟨_, _, ?_, ⟨[], by simp, by simp, rfl⟩, rfl⟩; refine mkEnd ?_ rfl; (constructor <;> (try dsimp only) <;> first | omega | (simp; done) | (simp; omega))))
        | (split <;> rename_i hq <;> (try simp only [Bool.not_eq_eq_eq_not, Bool.not_true, Bool.not_false, decide_eq_true_eq, decide_eq_false_iff_not, inB_t, inB_f, bytes_len, List.length_map, Bool.and_eq_true, Bool.and_eq_false_iff, and_true] at hq) <;> (try (exfalso; first | omega | (simp_all; done))))
        | (refine goW (by first | omega | (simp; omega)) (by first | omega | (simp; omega)) ?_)
        | (refine ret1 (by rfl) (by rfl) (outB ?_); first | rfl | grind [inB])
        | (refine ret1 (by rfl) (by rfl) (outI ?_); first | rfl | omega | grind [inB])
        | (refine ret1 (by rfl) (by rfl) (outB ?_)) | (refine ret1 (by rfl) (by rfl) (outI ?_)))
    all_goals (conv => whnf)
    · skip
      refine ⟨[0, 1, 2, 3, 4, 5], [(0, [6]), (1, [6]), (4, [4])], (by kernel_rfl), ?_⟩
      (conv => whnf)
      refine goE (first_x (by (constructor <;> (try dsimp only) <;> first | omega | (simp; done) | (simp; omega)))) ?_
      rintro _ ⟨_, ⟨s, hs, rfl⟩, rfl⟩
      (conv => whnf)
      (refine retE (by rfl) (by rfl) ⟨_, _, ?_, ⟨[s], by simpa using hs, by simp, rfl⟩, rfl⟩; refine mkEnd ?_ rfl; (constructor <;> (try dsimp only) <;> first | omega | (simp; done) | (simp; omega)))
    · skip
      refine ⟨[0, 1, 2, 3, 4, 5], [(0, [6]), (1, [6]), (4, [4])], (by kernel_rfl), ?_⟩
      (conv => whnf)
      refine goE (first_x (by (constructor <;> (try dsimp only) <;> first | omega | (simp; done) | (simp; omega)))) ?_
      rintro _ ⟨_, ⟨s, hs, rfl⟩, rfl⟩
      (conv => whnf)
      (refine retE (by rfl) (by rfl) ⟨_, _, ?_, ⟨[s], by simpa using hs, by simp, rfl⟩, rfl⟩; refine mkEnd ?_ rfl; (constructor <;> (try dsimp only) <;> first | omega | (simp; done) | (simp; omega)))
    · skip
      refine ⟨[0, 1, 2, 3, 4], [(0, [6]), (1, [9]), (3, [4])], (by kernel_rfl), ?_⟩
      (conv => whnf)
      (refine retE (by rfl) (by rfl) ⟨_, _, ?_, ⟨[{ s with data := bs }], fun t ht => by simp at ht; subst ht; exact ⟨hs.1, hag⟩, by simp, rfl⟩, rfl⟩; refine mkEnd ?_ rfl; (constructor <;> (try dsimp only) <;> first | omega | (simp; done) | (simp; omega)))
    · skip
      refine ⟨[0, 1, 2, 3, 4, 5], [(0, [6]), (1, [6]), (4, [4])], (by kernel_rfl), ?_⟩
      (conv => whnf)
      refine goE (last_x (by (constructor <;> (try dsimp only) <;> first | omega | (simp; done) | (simp; omega)))) ?_
      rintro _ ⟨_, ⟨s, hs, rfl⟩, rfl⟩
      (conv => whnf)
      (refine retE (by rfl) (by rfl) ⟨_, _, ?_, ⟨[s], by simpa using hs, by simp, rfl⟩, rfl⟩; refine mkEnd ?_ rfl; (constructor <;> (try dsimp only) <;> first | omega | (simp; done) | (simp; omega)))
    · skip
      refine ⟨[0, 1, 2, 3, 4, 5, 6, 7, 8, 9], [(0, [6]), (1, [6]), (4, [6]), (8, [4])], (by kernel_rfl), ?_⟩
      (conv => whnf)
      refine goW (by omega) (by omega) ?_
      (conv => whnf); refine goE (segment_x (by (constructor <;> (try dsimp only) <;> first | omega | (simp; done) | (simp; omega)))) ?_
      rintro _ ⟨_, ⟨s, hs, rfl⟩, rfl⟩
      (conv => whnf)
      (refine retE (by rfl) (by rfl) ⟨_, _, ?_, ⟨[s], by simpa using hs, by simp, rfl⟩, rfl⟩; refine mkEnd ?_ rfl; (constructor <;> (try dsimp only) <;> first | omega | (simp; done) | (simp; omega)))
    · skip
      refine ⟨[0, 1, 2, 3, 4, 5, 6, 7, 8, 9], [(0, [6]), (1, [6]), (4, [6]), (8, [4])], (by kernel_rfl), ?_⟩
      (conv => whnf)
      refine goW (by omega) (by omega) ?_
      (conv => whnf); refine goE (segment_x (by (constructor <;> (try dsimp only) <;> first | omega | (simp; done) | (simp; omega)))) ?_
      rintro _ ⟨_, ⟨s, hs, rfl⟩, rfl⟩
      (conv => whnf)
      (refine retE (by rfl) (by rfl) ⟨_, _, ?_, ⟨[s], by simpa using hs, by simp, rfl⟩, rfl⟩; refine mkEnd ?_ rfl; (constructor <;> (try dsimp only) <;> first | omega | (simp; done) | (simp; omega)))
  · refine fn_of_vc tab_ok mixed Try.call142 Try.func142 rfl [] _ _ (by kernel_rfl) rfl rfl rfl ?_
    (conv => whnf); refine goP (endOk_ok' e h) ?_
    rw [decide_eq_false hok]
    (conv => whnf)
    (refine retE (by rfl) (by rfl) ⟨_, _, ?_, ⟨[], by simp, by simp, rfl⟩, rfl⟩; refine mkEnd (m2 := []) (r3 := []) (m5 := []) (r4 := []) ?_ rfl; (constructor <;> (try dsimp only) <;> first | omega | (simp; done) | (simp; omega)))
end Go.Proofs.Ytpeejmolbmhjjaa.Sx
end

section
namespace Go.Proofs.Ytpeejmolbmhjjaa.Sx
set_option linter.unusedSimpArgs false
set_option linter.unusedVariables false
open Go
set_option maxRecDepth 100000
set_option maxHeartbeats 0
theorem rbytes_r {l : List Int} (hl : okB l) (p0 : Int) (hp : 0 ≤ p0 ∧ p0 < 500000000000) (n : Int) (hn : 0 ≤ n ∧ n ≤ 100) : Reads 140 l p0 [int n] fun p' v => (p0 ≤ p' ∧ p' ≤ p0 + 200) ∧ ∃ d : List Int, d.length ≤ 100 ∧ v = byts d := by
  refine fn_of_vc tab_ok mixed Try.call140 Try.func140 rfl [(1000, rd l p0)] _ _ (by kernel_rfl) rfl rfl rfl ?_
  (conv => whnf)
  refine ⟨Nat × Int × Int × List Int × List (List AV) × Nat, fun x => x.2.2.2.2.1 = bytes x.2.2.2.1 ∧ x.2.2.2.1.length = x.1 ∧ x.2.1 = n - x.1 ∧ 0 ≤ x.2.1 ∧ p0 ≤ x.2.2.1 ∧ x.2.2.1 ≤ p0 + 2 * x.1, fun x => ⟨[(0, .one (.ptr 1000 0)), (1, .one (.i .i64 x.2.1)), (5, .one (.lst 96 x.2.2.2.2.2 5 x.2.2.2.2.1))], [(1000, rd l x.2.2.1)], [(96, x.2.2.2.2.2), (1, 0)], [1000], [96,1]⟩, fun x => n.toNat - x.1, (0, n, p0, [], [], 0), fun x => rfl, ?_, (by refine ⟨?_, ?_, ?_⟩ <;> repeat' (first | exact trivial | refine ⟨rfl, ?_⟩)), ?_⟩
  · exact ⟨rfl, rfl, by simp, by dsimp only; omega, by dsimp only; omega, by dsimp only; omega⟩
  rintro ⟨k, m, p, acc, cells, v⟩ ⟨hc, hk, hm, hm0, hp1, hp2⟩
  dsimp only at hc hk hm hm0 hp1 hp2
  subst hc
  have hbl := bytes_len acc
  (conv => whnf); split <;> rename_i h4 <;> simp only [decide_eq_true_eq, decide_eq_false_iff_not] at h4
  case h_2 =>
    (conv => whnf)
    exact retG [] 0 (by rfl) (by rfl) (by rfl) (by rfl) (by rfl) (by rfl) ⟨p, byts acc, ⟨by omega, acc, by omega, rfl⟩, rfl⟩
  (conv => whnf); refine goPick hl (by exact ⟨⟨rfl, rfl⟩, trivial⟩) (by first | omega | (dsimp only; omega) | (simp; omega)) (by first | omega | (dsimp only; omega) | (simp; omega)) fun i hi1 hi2 => ?_
  (conv => whnf); split <;> rename_i h5
  · (conv => whnf); refine goPick hl (by exact ⟨⟨rfl, rfl⟩, trivial⟩) (by first | omega | (dsimp only; omega) | (simp; omega)) (by first | omega | (dsimp only; omega) | (simp; omega)) fun j hj1 hj2 => ?_
    (conv => whnf); refine ⟨_, rfl, ?_⟩
    (conv => whnf); refine ⟨by show ((bytes acc).length + 1) * 1 ≤ 140737488355328; omega, rfl, rfl, ?_⟩
    (conv => whnf); refine goW (by first | omega | (dsimp only; omega) | (simp; omega)) (by first | omega | (dsimp only; omega) | (simp; omega)) ?_
    (conv => whnf)
    (refine ⟨(k + 1, m - 1, p + 1 + 1, acc ++ [IntKind.u8.wrap j], bytes acc ++ [[.i .u8 (IntKind.u8.wrap j)]], v + 1), ?_, ⟨⟨rfl, rfl, rfl, trivial⟩, ⟨rfl, trivial⟩, ⟨rfl, rfl, trivial⟩⟩, ?_⟩; (focus (exact ⟨bytes_snoc2 _ _, by simp; omega, by dsimp only; omega, by dsimp only; omega, by dsimp only; omega, by dsimp only; omega⟩)); (focus (show n.toNat - (k + 1) < n.toNat - k; omega)))
  · (conv => whnf); refine goPick hl (by exact ⟨⟨rfl, rfl⟩, trivial⟩) (by first | omega | (dsimp only; omega) | (simp; omega)) (by first | omega | (dsimp only; omega) | (simp; omega)) fun j hj1 hj2 => ?_
    (conv => whnf); refine goW (by first | omega | (dsimp only; omega) | (simp; omega)) (by first | omega | (dsimp only; omega) | (simp; omega)) ?_
    (conv => whnf); refine ⟨_, rfl, ?_⟩
    (conv => whnf); refine ⟨by show ((bytes acc).length + 1) * 1 ≤ 140737488355328; omega, rfl, rfl, ?_⟩
    (conv => whnf); refine goW (by first | omega | (dsimp only; omega) | (simp; omega)) (by first | omega | (dsimp only; omega) | (simp; omega)) ?_
    (conv => whnf)
    (refine ⟨(k + 1, m - 1, p + 1 + 1, acc ++ [IntKind.u8.wrap (j + 97)], bytes acc ++ [[.i .u8 (IntKind.u8.wrap (j + 97))]], v + 1), ?_, ⟨⟨rfl, rfl, rfl, trivial⟩, ⟨rfl, trivial⟩, ⟨rfl, rfl, trivial⟩⟩, ?_⟩; (focus (exact ⟨bytes_snoc2 _ _, by simp; omega, by dsimp only; omega, by dsimp only; omega, by dsimp only; omega, by dsimp only; omega⟩)); (focus (show n.toNat - (k + 1) < n.toNat - k; omega)))
theorem goBytes {b : Nat} {l : List Int} {p n : Int} {M : Nat → Option (List AV)} {ok : Nat → Bool} {K : List (Nat × List AV) → Out → Prop} (hl : okB l) (hm : memIs M ok [(b, rd l p)]) (hp : 0 ≤ p ∧ p < 500000000000) (hn : 0 ≤ n ∧ n ≤ 100)
    (hk : ∀ p' (d : List Int), p ≤ p' → p' ≤ p + 200 → d.length ≤ 100 → K [(b, rd l p)] { mem := [rd l p'], res := .pv (byts d) }) :
    ∃ (m : List (Nat × List AV)) (R : Out → Prop), FnM Try.prog 140 m [(false, [.ptr b 0]), int n] R ∧ memIs M ok m ∧ ∀ o, R o → (o.tk.all fun x => Nat.ble 2 x.1 && Nat.blt x.1 9) = true → K m o :=
  goRd (rbytes_r hl p hp n hn) rfl (by rintro p' v ⟨_, d, _, rfl⟩; rfl) hm (by rintro p' v ⟨⟨h1, h2⟩, d, hd, rfl⟩; exact hk p' d h1 h2 hd)
end Go.Proofs.Ytpeejmolbmhjjaa.Sx
end
