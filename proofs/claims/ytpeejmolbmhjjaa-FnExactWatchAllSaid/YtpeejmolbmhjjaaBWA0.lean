/- Texts of the claim, in few files: what the functions of the program come to; there is no condition beyond those each statement names. -/
import Derived.Test.YtpeejmolbmhjjaaNTabY
import Derived.Test.YtpeejmolbmhjjaaRows
import Derived.WalkKit
import Derived.ProofKit
import Derived.OpenShut
import Derived.ShutString
import Derived.ChangeOld
import Derived.Below
import Derived.SizedLaws
import Derived.Deep.Slices
import Derived.ChangeSame
section
namespace Go.Proofs.Ytpeejmolbmhjjaa.Sx
set_option linter.unusedSimpArgs false
set_option linter.unusedVariables false
open Go
abbrev int (n : Int) : PV := (false, [.i .i64 n])
abbrev bool (b : Bool) : PV := (false, [.b b])
/-- A function without boxes that comes to this. -/
def Pure (f : FuncId) (args : List PV) (res : TV) : Prop := FnM Try.prog f [] args fun o => o = { res := res }
theorem goP {f : FuncId} {args : List PV} {res : TV} {M : Nat → Option (List AV)} {ok : Nat → Bool} {K : List (Nat × List AV) → Out → Prop} (h : Pure f args res) (hk : K [] { res := res }) :
    ∃ (m : List (Nat × List AV)) (R : Out → Prop), FnM Try.prog f m args R ∧ memIs M ok m ∧ ∀ o, R o → (o.tk.all fun x => Nat.ble 2 x.1 && Nat.blt x.1 9) = true → K m o :=
  ⟨[], _, h, trivial, fun o ho _ => by subst ho; exact hk⟩
theorem outB {a b : Bool} (h : a = b) : ({ res := .pv (false, [.b a]) } : Out) = { res := .pv (bool b) } := by rw [h]
theorem outI {a b : Int} (h : a = b) : ({ res := .pv (false, [.i .i64 a]) } : Out) = { res := .pv (int b) } := by rw [h]
theorem w64 (n : Int) (h1 : -9223372036854775808 ≤ n) (h2 : n < 9223372036854775808) : IntKind.i64.wrap n = n := by
  unfold IntKind.wrap
  simp only [IntKind.bits, IntKind.signed]
  simp
  omega
theorem goIdx {n : Int} {es : List (List AV)} {c : Bool} {K : List AV → Prop} (cs : List AV) (h0 : 0 ≤ n) (hc : c = true) (h : es[n.toNat]? = some cs) (hk : K cs) :
    0 ≤ n ∧ bif c then ∃ cs, es[n.toNat]? = some cs ∧ K cs else False := ⟨h0, by rw [hc]; exact ⟨cs, h, hk⟩⟩
theorem goW {n : Int} {K : Int → Prop} (h1 : -9223372036854775808 ≤ n) (h2 : n < 9223372036854775808) (hk : K n) : ∃ r, IntKind.i64.wrap n = r ∧ K r := ⟨n, w64 n h1 h2, hk⟩
def bytes (l : List Int) : List (List AV) := l.map fun x => [.i .u8 x]
structure Early where
  pl : Int
  b : Int
structure Ear where
  next : Int
  room : Int
  got : List Int
  far : List Early
structure Rng where
  fr : Int
  to : Int
structure Mouth where
  heard : Int
  keep : List Int
  sent : Int
  room : Int
  early : List Rng
structure Clock where
  mean : Int
  far : Int
  wait : Int
structure End where
  state : Int
  addr : Int
  n : Int
  peerAddr : Int
  peerN : Int
  base : Int
  out : Mouth
  inn : Ear
  closed : Bool
  lastTold : Bool
  lastHeard : Bool
  peerLast : Int
  due : Int
  tries : Int
  pulse : Clock
def Early.c (e : Early) : List AV := [.i .i64 e.pl, .i .u8 e.b]
def Rng.c (e : Rng) : List AV := [.i .i64 e.fr, .i .i64 e.to]
def Ear.c (e : Ear) : List AV := [.i .i64 e.next, .i .i64 e.room, .lst 0 0 5 (bytes e.got), .lst 0 0 138 (e.far.map Early.c)]
def Mouth.c (e : Mouth) : List AV := [.i .i64 e.heard, .lst 0 0 5 (bytes e.keep), .i .i64 e.sent, .i .i64 e.room, .lst 0 0 108 (e.early.map Rng.c)]
def Clock.c (e : Clock) : List AV := [.i .i64 e.mean, .i .i64 e.far, .i .i64 e.wait]
def End.c (e : End) : List AV := [.i .i64 e.state, .i .i64 e.addr, .i .i64 e.n, .i .i64 e.peerAddr, .i .i64 e.peerN, .i .i64 e.base,
  .i .i64 e.out.heard, .lst 0 0 5 (bytes e.out.keep), .i .i64 e.out.sent, .i .i64 e.out.room, .lst 0 0 108 (e.out.early.map Rng.c),
  .i .i64 e.inn.next, .i .i64 e.inn.room, .lst 0 0 5 (bytes e.inn.got), .lst 0 0 138 (e.inn.far.map Early.c),
  .b e.closed, .b e.lastTold, .b e.lastHeard, .i .i64 e.peerLast, .i .i64 e.due, .i .i64 e.tries, .i .i64 e.pulse.mean, .i .i64 e.pulse.far, .i .i64 e.pulse.wait]
abbrev Early.v (e : Early) : PV := (true, e.c)
abbrev Rng.v (e : Rng) : PV := (true, e.c)
abbrev Ear.v (e : Ear) : PV := (true, e.c)
abbrev Mouth.v (e : Mouth) : PV := (true, e.c)
abbrev Clock.v (e : Clock) : PV := (true, e.c)
abbrev End.v (e : End) : PV := (true, e.c)
@[simp] theorem bytes_len (l : List Int) : (bytes l).length = l.length := by simp [bytes]
def inB (n lo hi : Int) : Bool := decide (lo ≤ n) && decide (n ≤ hi)
set_option maxRecDepth 100000
theorem l1In_ok (n lo hi : Int) : Pure 108 [int n, int lo, int hi] (.pv (bool (inB n lo hi))) := by
  refine fn_of_vc tab_ok mixed Try.call108 Try.func108 rfl [] _ _ (by kernel_rfl) rfl rfl rfl ?_
  (conv => whnf); split
  · (conv => whnf); refine ret1 (by rfl) (by rfl) (outB ?_); first | rfl | (simp_all [inB]; done) | (simp_all [inB]; omega)
  · (conv => whnf); refine ret1 (by rfl) (by rfl) (outB ?_); first | rfl | (simp_all [inB]; done) | (simp_all [inB]; omega)
theorem in_ok (n lo hi : Int) : Pure 83 [int n, int lo, int hi] (.pv (bool (inB n lo hi))) := by
  refine fn_of_vc tab_ok mixed Try.call83 Try.func83 rfl [] _ _ (by kernel_rfl) rfl rfl rfl ?_
  (conv => whnf); split
  · (conv => whnf); refine ret1 (by rfl) (by rfl) (outB ?_); first | rfl | (simp_all [inB]; done) | (simp_all [inB]; omega)
  · (conv => whnf); refine ret1 (by rfl) (by rfl) (outB ?_); first | rfl | (simp_all [inB]; done) | (simp_all [inB]; omega)
theorem bit_ok (b : Bool) (n : Int) : Pure 84 [bool b, int n] (.pv (int (if b then n else 0))) := by
  refine fn_of_vc tab_ok mixed Try.call84 Try.func84 rfl [] _ _ (by kernel_rfl) rfl rfl rfl ?_
  (conv => whnf); split
  · (conv => whnf); refine ret1 (by rfl) (by rfl) (outI ?_); first | rfl | (simp_all []; done) | (simp_all []; omega)
  · (conv => whnf); refine ret1 (by rfl) (by rfl) (outI ?_); first | rfl | (simp_all []; done) | (simp_all []; omega)
theorem word_ok (n : Int) : Pure 91 [int n] (.pv (bool (inB n 0 65535))) := by
  refine fn_of_vc tab_ok mixed Try.call91 Try.func91 rfl [] _ _ (by kernel_rfl) rfl rfl rfl ?_
  (conv => whnf); refine goP (in_ok _ _ _) ?_
  (conv => whnf); exact ret1 (by rfl) (by rfl) (by rfl)
theorem portOk_ok (n : Int) : Pure 92 [int n] (.pv (bool (inB n 1 255))) := by
  refine fn_of_vc tab_ok mixed Try.call92 Try.func92 rfl [] _ _ (by kernel_rfl) rfl rfl rfl ?_
  (conv => whnf); refine goP (in_ok _ _ _) ?_
  (conv => whnf); exact ret1 (by rfl) (by rfl) (by rfl)
theorem clockNew_ok (n : Int) : Pure 93 [int n] (.pv (Clock.v ⟨0, 0, 24⟩)) := by
  refine fn_of_vc tab_ok mixed Try.call93 Try.func93 rfl [] _ _ (by kernel_rfl) rfl rfl rfl ?_
  (conv => whnf); exact ret1 (by rfl) (by rfl) (by rfl)
theorem clockNew_ok' (n : Int) : Pure 96 [int n] (.pv (Clock.v ⟨0, 0, 24⟩)) := by
  refine fn_of_vc tab_ok mixed Try.call96 Try.func96 rfl [] _ _ (by kernel_rfl) rfl rfl rfl ?_
  (conv => whnf); exact ret1 (by rfl) (by rfl) (by rfl)
def Clock.ok (c : Clock) : Bool := inB c.mean 0 80000 && inB c.far 0 80000 && inB c.wait 4 200
theorem clockOk_ok (c : Clock) : Pure 98 [c.v] (.pv (bool c.ok)) := by
  refine fn_of_vc tab_ok mixed Try.call98 Try.func98 rfl [] _ _ (by kernel_rfl) rfl rfl rfl ?_
  (conv => whnf); refine goP (in_ok _ _ _) ?_
  (conv => whnf); split
  · (conv => whnf); refine goP (in_ok _ _ _) ?_
    (conv => whnf); split
    · (conv => whnf); refine goP (in_ok _ _ _) ?_
      (conv => whnf); refine ret1 (by rfl) (by rfl) (outB ?_); first | rfl | (simp_all [Clock.ok]; done) | (simp_all [Clock.ok]; omega)
    · (conv => whnf); refine ret1 (by rfl) (by rfl) (outB ?_); first | rfl | (simp_all [Clock.ok]; done) | (simp_all [Clock.ok]; omega)
  · (conv => whnf); refine ret1 (by rfl) (by rfl) (outB ?_); first | rfl | (simp_all [Clock.ok]; done) | (simp_all [Clock.ok]; omega)
theorem clockOk_ok' (c : Clock) : Pure 111 [c.v] (.pv (bool c.ok)) := by
  refine fn_of_vc tab_ok mixed Try.call111 Try.func111 rfl [] _ _ (by kernel_rfl) rfl rfl rfl ?_
  (conv => whnf); refine goP (l1In_ok _ _ _) ?_
  (conv => whnf); split
  · (conv => whnf); refine goP (l1In_ok _ _ _) ?_
    (conv => whnf); split
    · (conv => whnf); refine goP (l1In_ok _ _ _) ?_
      (conv => whnf); refine ret1 (by rfl) (by rfl) (outB ?_); first | rfl | (simp_all [Clock.ok]; done) | (simp_all [Clock.ok]; omega)
    · (conv => whnf); refine ret1 (by rfl) (by rfl) (outB ?_); first | rfl | (simp_all [Clock.ok]; done) | (simp_all [Clock.ok]; omega)
  · (conv => whnf); refine ret1 (by rfl) (by rfl) (outB ?_); first | rfl | (simp_all [Clock.ok]; done) | (simp_all [Clock.ok]; omega)
theorem free_ok (e : Ear) (h : -9000000000000000000 ≤ e.room) (h2 : e.room < 9000000000000000000) (hl : e.got.length < 1000000000) : Pure 101 [e.v] (.pv (int (e.room - e.got.length))) := by
  refine fn_of_vc tab_ok mixed Try.call101 Try.func101 rfl [] _ _ (by kernel_rfl) rfl rfl rfl ?_
  (conv => whnf); refine ⟨_, w64 _ (by simp; omega) (by simp; omega), ?_⟩
  (conv => whnf); refine ret1 (by rfl) (by rfl) (outI ?_); first | rfl | (simp_all []; done) | (simp_all []; omega)
end Go.Proofs.Ytpeejmolbmhjjaa.Sx
end

section
namespace Go.Proofs.Ytpeejmolbmhjjaa.Sx
set_option linter.unusedSimpArgs false
set_option linter.unusedVariables false
open Go
set_option maxRecDepth 100000
theorem inB_iff {n lo hi : Int} : inB n lo hi = true ↔ lo ≤ n ∧ n ≤ hi := by simp [inB]
instance : Inhabited Early := ⟨⟨0, 0⟩⟩
def Ear.fa (e : Ear) (k : Nat) : Early := e.far.getD k default
/-- The k-th early byte lies where it may. -/
def Ear.okAt (e : Ear) (k : Nat) : Bool :=
  decide (e.next < (e.fa k).pl) && decide ((e.fa k).pl < e.next + e.room - e.got.length) && (decide (k = 0) || decide ((e.fa (k - 1)).pl < (e.fa k).pl))
def Ear.ok (e : Ear) : Bool := inB e.next 0 1000000 && inB e.room 1 32 && decide ((e.got.length : Int) ≤ e.room) && (List.range e.far.length).all e.okAt
theorem Ear.ok_all {e : Ear} (h1 : inB e.next 0 1000000 = true) (h2 : inB e.room 1 32 = true) (h3 : (e.got.length : Int) ≤ e.room) (h : ∀ j, j < e.far.length → e.okAt j = true) : e.ok = true := by
  simp only [Ear.ok, h1, h2, h3, decide_true, Bool.true_and, List.all_eq_true, List.mem_range]
  exact h
theorem Ear.ok_not {e : Ear} (j : Nat) (hj : j < e.far.length) (h : e.okAt j = false) : e.ok = false := by
  cases hq : e.ok with
  | false => rfl
  | true =>
    simp only [Ear.ok, Bool.and_eq_true, List.all_eq_true, List.mem_range] at hq
    rw [hq.2 j hj] at h; cases h
theorem far_get {e : Ear} {k : Nat} (h : k < e.far.length) : (e.far.map Early.c)[k]? = some (e.fa k).c := by
  simp [List.getElem?_map, Ear.fa, List.getD, List.getElem?_eq_getElem h]
theorem notF {b : Bool} (h : (!b) = false) : b = true := by cases b <;> first | rfl | cases h
theorem notT {b : Bool} (h : (!b) = true) : b = false := by cases b <;> first | rfl | cases h
theorem earOk_ok' (e : Ear) (hl : e.far.length < 1000000000) (hg : e.got.length < 1000000000) : Pure 110 [e.v] (.pv (bool e.ok)) := by
  refine fn_of_vc tab_ok mixed Try.call110 Try.func110 rfl [] _ _ (by kernel_rfl) rfl rfl rfl ?_
  (conv => whnf); refine goP (l1In_ok _ _ _) ?_
  (conv => whnf); split
  case h_1 h => (conv => whnf); refine ret1 (by rfl) (by rfl) (outB ?_); first | rfl | (simp_all [Ear.ok]; done) | (simp_all [Ear.ok]; omega)
  case h_2 h1 =>
  replace h1 := notF h1
  (conv => whnf); refine goP (l1In_ok _ _ _) ?_
  (conv => whnf); split
  case h_1 h => (conv => whnf); refine ret1 (by rfl) (by rfl) (outB ?_); first | rfl | (simp_all [Ear.ok]; done) | (simp_all [Ear.ok]; omega)
  case h_2 h2 =>
  replace h2 := notF h2
  (conv => whnf); split
  case h_1 h3 => (conv => whnf); refine ret1 (by rfl) (by rfl) (outB ?_); first | rfl | (simp_all [Ear.ok, bytes]; done) | (simp_all [Ear.ok, bytes]; omega)
  case h_2 h3 =>
  replace h3 : (e.got.length : Int) ≤ e.room := by simpa using h3
  have g1 := inB_iff.1 h1
  have g2 := inB_iff.1 h2
  (conv => whnf)
  refine ⟨Nat, fun k => k ≤ e.far.length ∧ ∀ j, j < k → e.okAt j = true, fun k => ⟨[(1, .one (.ptr 1 0)), (2, .one (.b false)), (3, .one (.i .i64 k))], [(1, e.c)], [(1, 0)], [1], [1]⟩, fun k => e.far.length - k, 0,
    fun x => rfl, ⟨by omega, fun j hj => by omega⟩, ⟨⟨rfl, rfl, rfl, trivial⟩, ⟨rfl, trivial⟩, ⟨rfl, trivial⟩⟩, ?_⟩
  rintro k ⟨hk, hinv⟩
  (conv => whnf); split
  case h_2 h4 =>
    (conv => whnf)
    have hke : k = e.far.length := by simp at h4; omega
    subst hke
    refine ret1 (by rfl) (by rfl) (outB ?_); first | rfl | (simp_all [Ear.ok_all h1 h2 h3 hinv]; done) | (simp_all [Ear.ok_all h1 h2 h3 hinv]; omega)
  case h_1 h4 =>
  have hlt : k < e.far.length := by simpa using h4
  refine ⟨[0, 1, 2, 3, 4, 5, 6, 7, 8, 9, 10, 11, 12, 13, 14, 15, 16, 17, 18, 19, 20, 21, 22, 23, 24, 25, 26, 27, 28, 29, 30, 31, 32, 33, 34, 35, 36, 37, 38, 39, 40, 41, 42, 43, 44, 45, 46], [(1, [1]), (7, [1]), (11, [1]), (17, [1]), (19, [1]), (22, [1]), (32, [1]), (39, [1])], (by kernel_rfl), ?_⟩
  (conv => whnf)
  refine goIdx (e.fa k).c (by omega) rfl (by simpa using far_get hlt) ?_
  (conv => whnf); split
  case h_1 h5 =>
    (conv => whnf); refine ret1 (by rfl) (by rfl) (outB ?_)
    exact (Ear.ok_not k hlt (by simp only [decide_eq_true_eq] at h5; simp [Ear.okAt]; omega)).symm
  case h_2 h5 =>
  simp only [decide_eq_false_iff_not] at h5
  (conv => whnf)
  refine goIdx (e.fa k).c (by omega) rfl (by simpa using far_get hlt) ?_
  (conv => whnf); refine goW (by omega) (by omega) ?_; (conv => whnf)
  refine goW (by simp; omega) (by simp; omega) ?_
  (conv => whnf); split
  case h_1 h6 =>
    (conv => whnf); refine ret1 (by rfl) (by rfl) (outB ?_)
    exact (Ear.ok_not k hlt (by simp at h6; simp [Ear.okAt]; omega)).symm
  case h_2 h6 =>
  replace h6 : (e.fa k).pl < e.next + e.room - e.got.length := by simpa using h6
  (conv => whnf); split
  case h_2 h7 =>
    (conv => whnf); refine goW (by omega) (by omega) ?_; (conv => whnf)
    have hk0 : k = 0 := by simp at h7; omega
    subst hk0
    exact ⟨1, ⟨by omega, fun j hj => by obtain rfl : j = 0 := by omega
                                        simp [Ear.okAt]; omega⟩, ⟨⟨rfl, rfl, rfl, trivial⟩, ⟨rfl, trivial⟩, ⟨rfl, trivial⟩⟩, by show e.far.length - 1 < e.far.length - 0; omega⟩
  case h_1 h7 =>
  replace h7 : 0 < k := by simpa using h7
  (conv => whnf); refine goW (by omega) (by omega) ?_; (conv => whnf)
  refine goIdx (e.fa (k - 1)).c (by omega) rfl (by rw [show ((k : Int) - 1).toNat = k - 1 by omega]; exact far_get (by omega)) ?_
  (conv => whnf)
  refine goIdx (e.fa k).c (by omega) rfl (by simpa using far_get hlt) ?_
  (conv => whnf); split
  case h_1 h8 =>
    (conv => whnf); refine ret1 (by rfl) (by rfl) (outB ?_)
    exact (Ear.ok_not k hlt (by simp only [decide_eq_true_eq] at h8; simp [Ear.okAt]; omega)).symm
  case h_2 h8 =>
  simp only [decide_eq_false_iff_not] at h8
  (conv => whnf); refine goW (by omega) (by omega) ?_; (conv => whnf)
  refine ⟨k + 1, ⟨by omega, fun j hj => ?_⟩, ⟨⟨rfl, rfl, rfl, trivial⟩, ⟨rfl, trivial⟩, ⟨rfl, trivial⟩⟩, by show e.far.length - (k + 1) < e.far.length - k; omega⟩
  by_cases hjk : j = k
  · subst hjk; simp [Ear.okAt]; omega
  · exact hinv j (by omega)
end Go.Proofs.Ytpeejmolbmhjjaa.Sx
end

section
namespace Go.Proofs.Ytpeejmolbmhjjaa.Sx
set_option linter.unusedSimpArgs false
set_option linter.unusedVariables false
open Go
set_option maxRecDepth 100000
theorem inB_t {n lo hi : Int} : (inB n lo hi = true) = (lo ≤ n ∧ n ≤ hi) := by simp [inB]
theorem inB_f {n lo hi : Int} : (inB n lo hi = false) = ¬(lo ≤ n ∧ n ≤ hi) := by simp only [eq_iff_iff, ← inB_iff]; simp
theorem earOk_ok (e : Ear) (hl : e.far.length < 1000000000) (hg : e.got.length < 1000000000) : Pure 97 [e.v] (.pv (bool e.ok)) := by
  refine fn_of_vc tab_ok mixed Try.call97 Try.func97 rfl [] _ _ (by kernel_rfl) rfl rfl rfl ?_
  repeat' ((conv => whnf); first
      | (refine goP (in_ok _ _ _) ?_)
      | (refine goP (free_ok e (by omega) (by omega) hg) ?_)
      | (split <;> rename_i hq <;> (try simp only [Bool.not_eq_eq_eq_not, Bool.not_true, Bool.not_false, decide_eq_true_eq, decide_eq_false_iff_not, inB_t, inB_f, bytes_len, List.length_map, Bool.and_eq_true, Bool.and_eq_false_iff, and_true] at hq) <;> (try (exfalso; first | omega | (simp_all; done))))
      | (refine goW (by first | omega | (simp; omega)) (by first | omega | (simp; omega)) ?_)
      | (refine ret1 (by rfl) (by rfl) (outB ?_); first | rfl | grind [Ear.ok, inB])
      | (refine ret1 (by rfl) (by rfl) (outI ?_); first | rfl | omega | grind [Ear.ok, inB])
      | (refine ret1 (by rfl) (by rfl) (outB ?_)) | (refine ret1 (by rfl) (by rfl) (outI ?_)))
  all_goals try (conv => whnf)
  rename_i _ hn _ hr _
  refine ⟨Nat, fun x => x ≤ e.far.length ∧ ∀ j, j < x → e.okAt j = true, fun x => ⟨[(1, .one (.ptr 1 0)), (2, .one (.b false)), (21, .one (.lst 0 0 138 (e.far.map Early.c))), (22, .one (.i .i64 (e.far.map Early.c).length)), (23, .one (.i .i64 x))], [(1, e.c)], [(1, 0)], [1], [1]⟩, fun x => e.far.length - x, 0, fun x => rfl, ?_, (by refine ⟨?_, ?_, ?_⟩ <;> repeat' (first | exact trivial | refine ⟨rfl, ?_⟩)), ?_⟩
  · exact ⟨by omega, fun j hj => by omega⟩
  rintro k ⟨hk, hinv⟩
  (conv => whnf); split <;> rename_i h4 <;> simp only [decide_eq_true_eq, decide_eq_false_iff_not, List.length_map] at h4
  case h_2 =>
    (conv => whnf)
    have hke : k = e.far.length := by omega
    subst hke
    refine ret1 (by rfl) (by rfl) (outB ?_); first | rfl | (simp_all [e.ok_all (inB_iff.2 hn) (inB_iff.2 hr) (by omega) hinv]; done) | (simp_all [e.ok_all (inB_iff.2 hn) (inB_iff.2 hr) (by omega) hinv]; omega)
  have hlt : k < e.far.length := by omega
  (conv => whnf)
  refine goIdx (e.fa k).c (by omega) rfl (by simpa using far_get hlt) ?_
  (conv => whnf)
  refine ⟨[0, 1, 2, 3, 4, 5, 6, 7, 8, 9, 10, 11, 12, 13, 14, 15, 16, 17, 18, 19, 20, 21, 22, 23, 24, 25, 26, 27, 28], [(1, [4]), (3, [1]), (6, [1]), (7, [1]), (18, [1]), (25, [4])], (by kernel_rfl), ?_⟩
  (conv => whnf)
  repeat' ((conv => whnf); first
      | (refine goP (in_ok _ _ _) ?_)
      | (refine goP (free_ok e (by omega) (by omega) hg) ?_)
      | (refine ret1 (by rfl) (by rfl) (outB (Ear.ok_not k hlt (by grind [Ear.okAt])).symm))
      | (refine goIdx (e.fa (k - 1)).c (by omega) rfl (by rw [show ((k : Int) - 1).toNat = k - 1 by omega]; exact far_get (by omega)) ?_)
      | (split <;> rename_i hq <;> (try simp only [Bool.not_eq_eq_eq_not, Bool.not_true, Bool.not_false, decide_eq_true_eq, decide_eq_false_iff_not, inB_t, inB_f, bytes_len, List.length_map, Bool.and_eq_true, Bool.and_eq_false_iff, and_true] at hq) <;> (try (exfalso; first | omega | (simp_all; done))))
      | (refine goW (by first | omega | (simp; omega)) (by first | omega | (simp; omega)) ?_)
      | (refine ret1 (by rfl) (by rfl) (outB ?_); first | rfl | grind [Ear.ok, inB])
      | (refine ret1 (by rfl) (by rfl) (outI ?_); first | rfl | omega | grind [Ear.ok, inB])
      | (refine ret1 (by rfl) (by rfl) (outB ?_)) | (refine ret1 (by rfl) (by rfl) (outI ?_)))
  all_goals (conv => whnf)
  all_goals refine ⟨k + 1, ?_, (by refine ⟨?_, ?_, ?_⟩ <;> repeat' (first | exact trivial | refine ⟨rfl, ?_⟩)), ?_⟩
  all_goals first | (show e.far.length - (k + 1) < e.far.length - k; omega) | refine ⟨by omega, fun j hj => ?_⟩
  all_goals
    by_cases hjk : j = k
    · subst hjk; grind [Ear.okAt]
    · exact hinv j (by omega)
end Go.Proofs.Ytpeejmolbmhjjaa.Sx
end

section
namespace Go.Proofs.Ytpeejmolbmhjjaa.Sx
set_option linter.unusedSimpArgs false
set_option linter.unusedVariables false
open Go
set_option maxRecDepth 100000
instance : DecidableEq Rng := fun a b => decidable_of_iff (a.fr = b.fr ∧ a.to = b.to) (by cases a; cases b; simp)
instance : DecidableEq Early := fun a b => decidable_of_iff (a.pl = b.pl ∧ a.b = b.b) (by cases a; cases b; simp)
instance : Inhabited Rng := ⟨⟨0, 0⟩⟩
def rgs (l : List Rng) : AV := .lst 0 0 108 (l.map Rng.c)
def rat (l : List Rng) (k : Nat) : Rng := l.getD k default
theorem rat_get {l : List Rng} {k : Nat} (h : k < l.length) : (l.map Rng.c)[k]? = some (rat l k).c := by
  simp [List.getElem?_map, rat, List.getD, List.getElem?_eq_getElem h]
theorem eq_of_rat {xs ys : List Rng} (hl : xs.length = ys.length) (h : ∀ j, j < xs.length → rat xs j = rat ys j) : xs = ys := by
  apply List.ext_getElem hl
  intro j h1 h2
  have := h j h1
  simpa [rat, List.getD, List.getElem?_eq_getElem h1, List.getElem?_eq_getElem h2] using this
theorem rng_ne {a b : Rng} (h : a.fr ≠ b.fr ∨ a.to ≠ b.to) : a ≠ b := by rintro rfl; omega
theorem rng_eq {a b : Rng} (h : a.fr = b.fr) (h2 : a.to = b.to) : a = b := by cases a; cases b; simp_all
theorem eqR_ok (xs ys : List Rng) (hx : xs.length < 1000000000) (hy : ys.length < 1000000000) : Pure 127 [(false, [rgs xs]), (false, [rgs ys])] (.pv (bool (decide (xs = ys)))) := by
  refine fn_of_vc tab_ok mixed Try.call127 Try.func127 rfl [] _ _ (by kernel_rfl) rfl rfl rfl ?_
  (conv => whnf); split <;> rename_i hq
  · (conv => whnf); refine ret1 (by rfl) (by rfl) (outB ?_)
    symm; apply decide_eq_false; rintro rfl; simp at hq
  have hl : xs.length = ys.length := Int.ofNat.inj (show ((xs.length : Nat) : Int) = ys.length by simpa using hq)
  (conv => whnf)
  refine ⟨Nat, fun x => x ≤ xs.length ∧ ∀ j, j < x → rat xs j = rat ys j, fun x => ⟨[(0, .one (rgs xs)), (1, .one (rgs ys)), (4, .one (.b false)), (12, .one (.i .i64 (xs.map Rng.c).length)), (13, .one (.i .i64 x))], [], [(1, 0)], [], [1]⟩, fun x => xs.length - x, 0, fun x => rfl, ?_, (by refine ⟨?_, ?_, ?_⟩ <;> repeat' (first | exact trivial | refine ⟨rfl, ?_⟩)), ?_⟩
  · exact ⟨by omega, fun j hj => by omega⟩
  rintro k ⟨hk, hinv⟩
  (conv => whnf); split <;> rename_i h4 <;> simp only [decide_eq_true_eq, decide_eq_false_iff_not, List.length_map] at h4
  case h_2 =>
    (conv => whnf); refine ret1 (by rfl) (by rfl) (outB ?_)
    have hke : k = xs.length := by omega
    subst hke
    symm; apply decide_eq_true; exact eq_of_rat hl hinv
  have hlt : k < xs.length := by omega
  (conv => whnf)
  refine ⟨[0, 1, 2, 3, 4, 5, 6, 7, 8], [], (by kernel_rfl), ?_⟩
  (conv => whnf)
  refine goIdx (rat xs k).c (by omega) rfl (by simpa using rat_get hlt) ?_
  (conv => whnf)
  refine goIdx (rat ys k).c (by omega) rfl (by simpa using rat_get (hl ▸ hlt)) ?_
  (conv => whnf)
  repeat' ((conv => whnf); first
      | (refine ⟨rfl, ?_⟩)
      | (split <;> rename_i hq <;> (try simp only [Bool.not_eq_eq_eq_not, Bool.not_true, Bool.not_false, decide_eq_true_eq, decide_eq_false_iff_not, inB_t, inB_f, bytes_len, List.length_map, Bool.and_eq_true, Bool.and_eq_false_iff, and_true] at hq) <;> (try (exfalso; first | omega | (simp_all; done))))
      | (refine goW (by first | omega | (simp; omega)) (by first | omega | (simp; omega)) ?_)
      | (refine ret1 (by rfl) (by rfl) (outB ?_); first | rfl | grind [inB])
      | (refine ret1 (by rfl) (by rfl) (outI ?_); first | rfl | omega | grind [inB])
      | (refine ret1 (by rfl) (by rfl) (outB ?_)) | (refine ret1 (by rfl) (by rfl) (outI ?_)))
  (conv => whnf)
  refine ⟨k + 1, ?_, (by refine ⟨?_, ?_, ?_⟩ <;> repeat' (first | exact trivial | refine ⟨rfl, ?_⟩)), ?_⟩
  · refine ⟨by omega, fun j hj => ?_⟩
    by_cases hjk : j = k
    · subst hjk; exact rng_eq hq.1 hq.2
    · exact hinv j (by omega)
  · show xs.length - (k + 1) < xs.length - k; omega
theorem sameR_ok (xs ys : List Rng) (hx : xs.length < 1000000000) (hy : ys.length < 1000000000) : Pure 146 [(false, [rgs xs]), (false, [rgs ys])] (.pv (bool (decide (xs = ys)))) := by
  refine fn_of_vc tab_ok mixed Try.call146 Try.func146 rfl [] _ _ (by kernel_rfl) rfl rfl rfl ?_
  (conv => whnf); split <;> rename_i hq
  · (conv => whnf); refine ret1 (by rfl) (by rfl) (outB ?_)
    symm; apply decide_eq_false; rintro rfl; simp at hq
  have hl : xs.length = ys.length := Int.ofNat.inj (show ((xs.length : Nat) : Int) = ys.length by simpa using hq)
  (conv => whnf)
  refine ⟨Nat, fun x => x ≤ xs.length ∧ ∀ j, j < x → rat xs j = rat ys j, fun x => ⟨[(0, .one (rgs xs)), (1, .one (rgs ys)), (4, .one (.b false)), (5, .one (.i .i64 x))], [], [(1, 0)], [], [1]⟩, fun x => xs.length - x, 0, fun x => rfl, ?_, (by refine ⟨?_, ?_, ?_⟩ <;> repeat' (first | exact trivial | refine ⟨rfl, ?_⟩)), ?_⟩
  · exact ⟨by omega, fun j hj => by omega⟩
  rintro k ⟨hk, hinv⟩
  (conv => whnf); split <;> rename_i h4 <;> simp only [decide_eq_true_eq, decide_eq_false_iff_not, List.length_map] at h4
  case h_2 =>
    (conv => whnf); refine ret1 (by rfl) (by rfl) (outB ?_)
    have hke : k = xs.length := by omega
    subst hke
    symm; apply decide_eq_true; exact eq_of_rat hl hinv
  have hlt : k < xs.length := by omega
  (conv => whnf)
  refine ⟨[0, 1, 2, 3, 4, 5, 6, 7, 8], [], (by kernel_rfl), ?_⟩
  (conv => whnf)
  refine goIdx (rat xs k).c (by omega) rfl (by simpa using rat_get hlt) ?_
  (conv => whnf)
  refine goIdx (rat ys k).c (by omega) rfl (by simpa using rat_get (hl ▸ hlt)) ?_
  (conv => whnf)
  repeat' ((conv => whnf); first
      | (refine ⟨rfl, ?_⟩)
      | (split <;> rename_i hq <;> (try simp only [Bool.not_eq_eq_eq_not, Bool.not_true, Bool.not_false, decide_eq_true_eq, decide_eq_false_iff_not, inB_t, inB_f, bytes_len, List.length_map, Bool.and_eq_true, Bool.and_eq_false_iff, and_true] at hq) <;> (try (exfalso; first | omega | (simp_all; done))))
      | (refine goW (by first | omega | (simp; omega)) (by first | omega | (simp; omega)) ?_)
      | (refine ret1 (by rfl) (by rfl) (outB ?_); first | rfl | grind [inB])
      | (refine ret1 (by rfl) (by rfl) (outI ?_); first | rfl | omega | grind [inB])
      | (refine ret1 (by rfl) (by rfl) (outB ?_)) | (refine ret1 (by rfl) (by rfl) (outI ?_)))
  (conv => whnf)
  refine ⟨k + 1, ?_, (by refine ⟨?_, ?_, ?_⟩ <;> repeat' (first | exact trivial | refine ⟨rfl, ?_⟩)), ?_⟩
  · refine ⟨by omega, fun j hj => ?_⟩
    by_cases hjk : j = k
    · subst hjk; exact rng_eq hq.1 hq.2
    · exact hinv j (by omega)
  · show xs.length - (k + 1) < xs.length - k; omega
theorem clip_ok (l : List Rng) (hl : l.length < 1000000000) : Pure 187 [(false, [rgs l])] (.pv (false, [rgs l])) := by
  refine fn_of_vc tab_ok mixed Try.call187 Try.func187 rfl [] _ _ (by kernel_rfl) rfl rfl rfl ?_
  (conv => whnf)
  refine ⟨rfl, by omega, by omega, ?_⟩
  (conv => whnf)
  refine ret1 (by rfl) (by rfl) ?_
  show ({ res := .pv (false, [AV.lst 0 0 108 _]) } : Out) = _
  simp only [rgs, Int.toNat_natCast, List.take_length]
theorem cloneR_ok (l : List Rng) (hl : l.length < 1000000000) : Pure 161 [(false, [rgs l])] (.pv (false, [rgs l])) := by
  refine fn_of_vc tab_ok mixed Try.call161 Try.func161 rfl [] _ _ (by kernel_rfl) rfl rfl rfl ?_
  (conv => whnf); split <;> rename_i hq
  · (conv => whnf); refine ret1 (by rfl) (by rfl) ?_
    have : l = [] := by simpa using hq
    subst this; rfl
  (conv => whnf)
  refine ⟨by show (0 + (List.map Rng.c l).length) * 16 ≤ 140737488355328; simp; omega, ?_⟩
  (conv => whnf); refine goP (clip_ok l hl) ?_
  (conv => whnf)
  refine ret1 (by rfl) (by rfl) ?_
  rfl
/-- The first two ranges that lie right. -/
def okR : Int → List Rng → List Rng → Int → List Rng
  | _, acc, [], _ => acc
  | lo, acc, r :: rs, hi => if lo < r.fr ∧ r.fr < r.to ∧ r.to ≤ hi ∧ acc.length < 2 then okR r.to (acc ++ [r]) rs hi else okR lo acc rs hi
theorem okR_step {lo hi : Int} {acc l : List Rng} {k : Nat} (h : k < l.length) : okR lo acc (l.drop k) hi = if lo < (rat l k).fr ∧ (rat l k).fr < (rat l k).to ∧ (rat l k).to ≤ hi ∧ acc.length < 2 then okR (rat l k).to (acc ++ [rat l k]) (l.drop (k + 1)) hi else okR lo acc (l.drop (k + 1)) hi := by
  rw [List.drop_eq_getElem_cons h]
  simp [okR, rat, List.getD, List.getElem?_eq_getElem h]
theorem rangesOk_ok (l : List Rng) (lo hi : Int) (hl : l.length < 1100000) : Pure 128 [(false, [rgs l]), int lo, int hi] (.pv (false, [rgs (okR lo [] l hi)])) := by
  refine fn_of_vc tab_ok mixed Try.call128 Try.func128 rfl [] _ _ (by kernel_rfl) rfl rfl rfl ?_
  (conv => whnf)
  refine ⟨Nat × Int × List Rng × List (List AV) × Nat, fun x => x.2.2.2.1 = x.2.2.1.map Rng.c ∧ x.1 ≤ l.length ∧ x.2.2.1.length ≤ 2 ∧ okR lo [] l hi = okR x.2.1 x.2.2.1 (l.drop x.1) hi, fun x => ⟨[(7, .one (.lst 112 x.2.2.2.2 108 x.2.2.2.1)), (8, .one (.i .i64 x.2.1)), (2, .one (.i .i64 hi)), (12, .one (rgs l)), (13, .one (.i .i64 (l.map Rng.c).length)), (14, .one (.i .i64 x.1))], [], [(112, x.2.2.2.2), (1, 0)], [], [112,1]⟩, fun x => l.length - x.1, (0, lo, [], [], 0), fun x => rfl, ?_, (by refine ⟨?_, ?_, ?_⟩ <;> repeat' (first | exact trivial | refine ⟨rfl, ?_⟩)), ?_⟩
  · exact ⟨rfl, by simp, by simp, by simp⟩
  rintro ⟨k, b, acc, cs, v⟩ ⟨hcs, hk, ha, hinv⟩
  dsimp only at hcs hk ha hinv
  (conv => whnf); split <;> rename_i h4 <;> simp only [decide_eq_true_eq, decide_eq_false_iff_not, List.length_map] at h4
  case h_2 =>
    have hke : k = l.length := by omega
    subst hke
    simp only [List.drop_length, okR] at hinv
    subst hcs
    (conv => whnf); refine goP (cloneR_ok acc (by omega)) ?_
    (conv => whnf); refine ret1 (by rfl) (by rfl) ?_
    rw [hinv]; rfl
  have hlt : k < l.length := by omega
  have e1 : cs.length = acc.length := by rw [hcs]; simp
  rw [okR_step hlt] at hinv
  (conv => whnf)
  refine goIdx (rat l k).c (by omega) rfl (by simpa using rat_get hlt) ?_
  repeat' ((conv => whnf); first
      | (refine ⟨by show (cs.length + 1) * 16 ≤ 140737488355328; simp [hcs]; omega, ?_⟩)
      | (refine ⟨rfl, rfl, ?_⟩)
      | (split <;> rename_i hq <;> (try simp only [Bool.not_eq_eq_eq_not, Bool.not_true, Bool.not_false, decide_eq_true_eq, decide_eq_false_iff_not, inB_t, inB_f, bytes_len, List.length_map, Bool.and_eq_true, Bool.and_eq_false_iff, and_true] at hq) <;> (try (exfalso; first | omega | (simp_all; done))))
      | (refine goW (by first | omega | (simp; omega)) (by first | omega | (simp; omega)) ?_)
      | (refine ret1 (by rfl) (by rfl) (outB ?_); first | rfl | grind [inB])
      | (refine ret1 (by rfl) (by rfl) (outI ?_); first | rfl | omega | grind [inB])
      | (refine ret1 (by rfl) (by rfl) (outB ?_)) | (refine ret1 (by rfl) (by rfl) (outI ?_)))
  all_goals (conv => whnf)
  all_goals first
    | (have hn : ¬(b < (rat l k).fr ∧ (rat l k).fr < (rat l k).to ∧ (rat l k).to ≤ hi ∧ acc.length < 2) := by omega
       rw [if_neg hn] at hinv
       refine ⟨(k + 1, b, acc, cs, v), ?_, (by refine ⟨?_, ?_, ?_⟩ <;> repeat' (first | exact trivial | refine ⟨rfl, ?_⟩)), ?_⟩
       · exact ⟨hcs, by omega, ha, hinv⟩
       · show l.length - (k + 1) < l.length - k; omega)
    | (have hn : (b < (rat l k).fr ∧ (rat l k).fr < (rat l k).to ∧ (rat l k).to ≤ hi ∧ acc.length < 2) := by omega
       rw [if_pos hn] at hinv
       refine ⟨(k + 1, (rat l k).to, acc ++ [rat l k], cs ++ [(rat l k).c], v + 1), ?_, (by refine ⟨?_, ?_, ?_⟩ <;> repeat' (first | exact trivial | refine ⟨rfl, ?_⟩)), ?_⟩
       · exact ⟨by simp [hcs], by omega, by simp; omega, hinv⟩
       · show l.length - (k + 1) < l.length - k; omega)
end Go.Proofs.Ytpeejmolbmhjjaa.Sx
end

section
namespace Go.Proofs.Ytpeejmolbmhjjaa.Sx
set_option linter.unusedSimpArgs false
set_option linter.unusedVariables false
open Go
set_option maxRecDepth 100000
def Mouth.base (m : Mouth) : Prop := (0 ≤ m.heard ∧ m.heard ≤ 1000000) ∧ m.keep.length ≤ 32 ∧ (0 ≤ m.sent ∧ m.sent ≤ m.keep.length) ∧ (0 ≤ m.room ∧ m.room ≤ 255) ∧ m.early.length ≤ 2
instance (m : Mouth) : Decidable m.base := by unfold Mouth.base; infer_instance
def Mouth.ok (m : Mouth) : Bool := decide (m.base ∧ okR m.heard [] m.early (m.heard + m.sent) = m.early)
/-- The k-th early range lies where it may. -/
def Mouth.okAt (m : Mouth) (k : Nat) : Bool :=
  decide (m.heard < (rat m.early k).fr ∧ (rat m.early k).fr < (rat m.early k).to ∧ (rat m.early k).to ≤ m.heard + m.sent ∧ (k = 0 ∨ (rat m.early (k - 1)).to < (rat m.early k).fr))
theorem Mouth.ok_all {m : Mouth} (h : m.base) (h2 : ∀ j, j < m.early.length → m.okAt j = true) : m.ok = true := by
  have h5 := h.2.2.2.2
  simp only [Mouth.ok, h, true_and]
  generalize hl : m.early = l at *
  match l, h5 with
  | [], _ => simp [okR]
  | [a], _ => have := h2 0 (by simp); simp [Mouth.okAt, rat, hl] at this; simp [okR]; omega
  | [a, b], _ =>
    have := h2 0 (by simp)
    have := h2 1 (by simp)
    simp [Mouth.okAt, rat, hl] at *
    simp [okR, *]
theorem Mouth.ok_not {m : Mouth} (h : m.early.length ≤ 2) (j : Nat) (hj : j < m.early.length) (h2 : m.okAt j = false) : m.ok = false := by
  simp only [Mouth.ok, decide_eq_false_iff_not]
  rintro ⟨_, h3⟩
  generalize hl : m.early = l at *
  match l, h with
  | [], _ => simp at hj
  | [a], _ =>
    have : j = 0 := by simp at hj; omega
    subst this
    simp [Mouth.okAt, rat, hl] at h2; simp [okR] at h3; grind
  | [a, b], _ =>
    simp at hj
    simp [okR] at h3
    have : j = 0 ∨ j = 1 := by omega
    rcases this with rfl | rfl <;> simp [Mouth.okAt, rat, hl] at h2 <;> grind
theorem okR_len (hi : Int) : ∀ (l : List Rng) (lo : Int) (acc : List Rng), (okR lo acc l hi).length ≤ acc.length + l.length
  | [], lo, acc => by simp [okR]
  | r :: rs, lo, acc => by
    rw [okR]; split
    · have := okR_len hi rs r.to (acc ++ [r]); simp at this ⊢; omega
    · have := okR_len hi rs lo acc; simp; omega
theorem mouthOk_ok (m : Mouth) (hk : m.keep.length < 1000000000) (he : m.early.length < 1100000) : Pure 70 [m.v] (.pv (bool m.ok)) := by
  refine fn_of_vc tab_ok mixed Try.call70 Try.func70 rfl [] _ _ (by kernel_rfl) rfl rfl rfl ?_
  (conv => whnf)
  refine ⟨[0, 1, 2, 3, 4, 5, 6, 7, 8, 9, 10, 11, 12, 13, 14, 15, 16, 17, 18, 19, 20, 21, 22, 23, 24, 25, 26, 27, 28, 29, 30, 31, 32, 33, 34, 35, 36, 37, 39, 40, 38, 41, 42, 43], [(1, [1]), (5, [1]), (11, [1]), (13, [1]), (19, [1]), (24, [1]), (30, [1]), (32, [1]), (34, [1]), (36, [1]), (40, [1])], (by kernel_rfl), ?_⟩
  (conv => whnf)
  repeat' ((conv => whnf); first
      | (refine goP (in_ok _ _ _) ?_)
      | (refine goP (rangesOk_ok m.early m.heard _ he) ?_)
      | (refine goP (eqR_ok (okR m.heard [] m.early (m.heard + m.sent)) m.early (by have := okR_len (m.heard + m.sent) m.early m.heard []; simp at this; omega) (by omega)) ?_)
      | (split <;> rename_i hq <;> (try simp only [Bool.not_eq_eq_eq_not, Bool.not_true, Bool.not_false, decide_eq_true_eq, decide_eq_false_iff_not, inB_t, inB_f, bytes_len, List.length_map, Bool.and_eq_true, Bool.and_eq_false_iff, and_true] at hq) <;> (try (exfalso; first | omega | (simp_all; done))))
      | (refine goW (by first | omega | (simp; omega)) (by first | omega | (simp; omega)) ?_)
      | (refine ret1 (by rfl) (by rfl) (outB ?_); first | rfl | grind [Mouth.ok, inB, Mouth.base])
      | (refine ret1 (by rfl) (by rfl) (outI ?_); first | rfl | omega | grind [Mouth.ok, inB, Mouth.base])
      | (refine ret1 (by rfl) (by rfl) (outB ?_)) | (refine ret1 (by rfl) (by rfl) (outI ?_)))
theorem mouthOk_ok' (m : Mouth) (hk : m.keep.length < 1000000000) (he : m.early.length < 1100000) : Pure 109 [m.v] (.pv (bool m.ok)) := by
  refine fn_of_vc tab_ok mixed Try.call109 Try.func109 rfl [] _ _ (by kernel_rfl) rfl rfl rfl ?_
  repeat' ((conv => whnf); first
      | (refine goP (l1In_ok _ _ _) ?_)
      | (split <;> rename_i hq <;> (try simp only [Bool.not_eq_eq_eq_not, Bool.not_true, Bool.not_false, decide_eq_true_eq, decide_eq_false_iff_not, inB_t, inB_f, bytes_len, List.length_map, Bool.and_eq_true, Bool.and_eq_false_iff, and_true] at hq) <;> (try (exfalso; first | omega | (simp_all; done))))
      | (refine goW (by first | omega | (simp; omega)) (by first | omega | (simp; omega)) ?_)
      | (refine ret1 (by rfl) (by rfl) (outB ?_); first | rfl | grind [Mouth.ok, inB, Mouth.base])
      | (refine ret1 (by rfl) (by rfl) (outI ?_); first | rfl | omega | grind [Mouth.ok, inB, Mouth.base])
      | (refine ret1 (by rfl) (by rfl) (outB ?_)) | (refine ret1 (by rfl) (by rfl) (outI ?_)))
  (conv => whnf)
  rename_i _ c1 _ c2 _ c3 _ c4 _
  have hb : m.base := ⟨c1, by omega, c3, c4, by omega⟩
  refine ⟨Nat, fun x => x ≤ m.early.length ∧ ∀ j, j < x → m.okAt j = true, fun x => ⟨[(1, .one (.ptr 1 0)), (2, .one (.b false)), (3, .one (.i .i64 x))], [(1, m.c)], [(1, 0)], [1], [1]⟩, fun x => m.early.length - x, 0, fun x => rfl, ?_, (by refine ⟨?_, ?_, ?_⟩ <;> repeat' (first | exact trivial | refine ⟨rfl, ?_⟩)), ?_⟩
  · exact ⟨by omega, fun j hj => by omega⟩
  rintro k ⟨hk, hinv⟩
  (conv => whnf); split <;> rename_i h4 <;> simp only [decide_eq_true_eq, decide_eq_false_iff_not, List.length_map] at h4
  case h_2 =>
    (conv => whnf); refine ret1 (by rfl) (by rfl) (outB ?_)
    have hke : k = m.early.length := by omega
    subst hke
    exact (Mouth.ok_all hb hinv).symm
  have hlt : k < m.early.length := by omega
  (conv => whnf)
  refine goIdx (rat m.early k).c (by omega) rfl (by simpa using rat_get hlt) ?_
  (conv => whnf)
  refine ⟨[0, 1, 2, 3, 4, 5, 6, 7, 8, 9, 10, 11, 12, 13, 14, 15, 16, 17, 18, 19, 20, 21, 22, 23, 24, 25, 26, 27, 28, 29, 30, 31, 32, 33, 34, 35, 36, 37], [(1, [4]), (3, [1]), (7, [4]), (9, [4]), (14, [4]), (16, [1]), (18, [1]), (27, [1]), (34, [4])], (by kernel_rfl), ?_⟩
  (conv => whnf)
  repeat' ((conv => whnf); first
      | (refine ret1 (by rfl) (by rfl) (outB (Mouth.ok_not (by omega) k hlt (by grind [Mouth.okAt])).symm))
      | (refine goIdx (rat m.early (k - 1)).c (by omega) rfl (by rw [show ((k : Int) - 1).toNat = k - 1 by omega]; exact rat_get (by omega)) ?_)
      | (split <;> rename_i hq <;> (try simp only [Bool.not_eq_eq_eq_not, Bool.not_true, Bool.not_false, decide_eq_true_eq, decide_eq_false_iff_not, inB_t, inB_f, bytes_len, List.length_map, Bool.and_eq_true, Bool.and_eq_false_iff, and_true] at hq) <;> (try (exfalso; first | omega | (simp_all; done))))
      | (refine goW (by first | omega | (simp; omega)) (by first | omega | (simp; omega)) ?_)
      | (refine ret1 (by rfl) (by rfl) (outB ?_); first | rfl | grind [inB])
      | (refine ret1 (by rfl) (by rfl) (outI ?_); first | rfl | omega | grind [inB])
      | (refine ret1 (by rfl) (by rfl) (outB ?_)) | (refine ret1 (by rfl) (by rfl) (outI ?_)))
  all_goals (conv => whnf)
  all_goals refine ⟨k + 1, ?_, (by refine ⟨?_, ?_, ?_⟩ <;> repeat' (first | exact trivial | refine ⟨rfl, ?_⟩)), ?_⟩
  all_goals first | (show m.early.length - (k + 1) < m.early.length - k; omega) | refine ⟨by omega, fun j hj => ?_⟩
  all_goals
    by_cases hjk : j = k
    · subst hjk; grind [Mouth.okAt]
    · exact hinv j (by omega)
end Go.Proofs.Ytpeejmolbmhjjaa.Sx
end

section
namespace Go.Proofs.Ytpeejmolbmhjjaa.Sx
set_option linter.unusedSimpArgs false
set_option linter.unusedVariables false
open Go
set_option maxRecDepth 100000
/-- No list is long. -/
structure End.small (e : End) : Prop where
  keep : e.out.keep.length < 1100000
  early : e.out.early.length < 1100000
  got : e.inn.got.length < 1100000
  far : e.inn.far.length < 1100000
def Ear.under (e : Ear) (n : Int) : Prop := ∀ j, j < e.far.length → (e.fa j).pl < n
instance (e : Ear) (n : Int) : Decidable (e.under n) := by unfold Ear.under; infer_instance
def End.lastP (e : End) : Prop := ¬(e.lastHeard = true ∧ e.lastTold = false) ∧ (e.lastTold = true → e.closed = true ∧ e.out.sent = e.out.keep.length ∧ 4 ≤ e.state) ∧
  (e.peerLast = -1 ∨ e.inn.under e.peerLast ∧ (e.inn.next ≤ e.peerLast ∧ e.peerLast ≤ 1000000) ∧ 4 ≤ e.state)
instance (e : End) : Decidable e.lastP := by unfold End.lastP; infer_instance
def End.goesP (e : End) : Prop := e.state = 2 ∨ e.state = 3 ∨ (e.state = 4 ∧ (0 < e.out.keep.length ∨ (e.lastTold = true ∧ e.lastHeard = false)))
instance (e : End) : Decidable e.goesP := by unfold End.goesP; infer_instance
theorem goes_ok (e : End) : Pure 100 [e.v] (.pv (bool (decide e.goesP))) := by
  refine fn_of_vc tab_ok mixed Try.call100 Try.func100 rfl [] _ _ (by kernel_rfl) rfl rfl rfl ?_
  repeat' ((conv => whnf); first
      | (fail)
      | (split <;> rename_i hq <;> (try simp only [Bool.not_eq_eq_eq_not, Bool.not_true, Bool.not_false, decide_eq_true_eq, decide_eq_false_iff_not, inB_t, inB_f, bytes_len, List.length_map, Bool.and_eq_true, Bool.and_eq_false_iff, and_true] at hq) <;> (try (exfalso; first | omega | (simp_all; done))))
      | (refine goW (by first | omega | (simp; omega)) (by first | omega | (simp; omega)) ?_)
      | (refine ret1 (by rfl) (by rfl) (outB ?_); first | rfl | grind [End.goesP, inB, bytes_len])
      | (refine ret1 (by rfl) (by rfl) (outI ?_); first | rfl | omega | grind [End.goesP, inB, bytes_len])
      | (refine ret1 (by rfl) (by rfl) (outB ?_)) | (refine ret1 (by rfl) (by rfl) (outI ?_)))
theorem open_ok (e : End) (h : 0 ≤ e.out.sent ∧ e.out.sent ≤ e.out.keep.length) : Pure 112 [e.v] (.pv (bool (decide e.goesP))) := by
  refine fn_of_vc tab_ok mixed Try.call112 Try.func112 rfl [] _ _ (by kernel_rfl) rfl rfl rfl ?_
  repeat' ((conv => whnf); first
      | (fail)
      | (split <;> rename_i hq <;> (try simp only [Bool.not_eq_eq_eq_not, Bool.not_true, Bool.not_false, decide_eq_true_eq, decide_eq_false_iff_not, inB_t, inB_f, bytes_len, List.length_map, Bool.and_eq_true, Bool.and_eq_false_iff, and_true] at hq) <;> (try (exfalso; first | omega | (simp_all; done))))
      | (refine goW (by first | omega | (simp; omega)) (by first | omega | (simp; omega)) ?_)
      | (refine ret1 (by rfl) (by rfl) (outB ?_); first | rfl | grind [End.goesP, inB, bytes_len])
      | (refine ret1 (by rfl) (by rfl) (outI ?_); first | rfl | omega | grind [End.goesP, inB, bytes_len])
      | (refine ret1 (by rfl) (by rfl) (outB ?_)) | (refine ret1 (by rfl) (by rfl) (outI ?_)))
theorem nLast {e : End} {k : Nat} (hlt : k < e.inn.far.length) (h : ¬ e.peerLast = -1) (h2 : e.peerLast ≤ (e.inn.fa k).pl) : false = decide e.lastP := by
  symm; apply decide_eq_false
  rintro ⟨_, _, h3⟩
  rcases h3 with h3 | ⟨h3, _⟩
  · exact h h3
  · have := h3 k hlt; omega
theorem lastOk_ok (e : End) (hs : e.small) : Pure 99 [e.v] (.pv (bool (decide e.lastP))) := by
  refine fn_of_vc tab_ok mixed Try.call99 Try.func99 rfl [] _ _ (by kernel_rfl) rfl rfl rfl ?_
  repeat' ((conv => whnf); first
      | (refine goP (in_ok _ _ _) ?_)
      | (split <;> rename_i hq <;> (try simp only [Bool.not_eq_eq_eq_not, Bool.not_true, Bool.not_false, decide_eq_true_eq, decide_eq_false_iff_not, inB_t, inB_f, bytes_len, List.length_map, Bool.and_eq_true, Bool.and_eq_false_iff, and_true] at hq) <;> (try (exfalso; first | omega | (simp_all; done))))
      | (refine goW (by first | omega | (simp; omega)) (by first | omega | (simp; omega)) ?_)
      | (refine ret1 (by rfl) (by rfl) (outB ?_); first | rfl | grind [End.lastP, inB])
      | (refine ret1 (by rfl) (by rfl) (outI ?_); first | rfl | omega | grind [End.lastP, inB])
      | (refine ret1 (by rfl) (by rfl) (outB ?_)) | (refine ret1 (by rfl) (by rfl) (outI ?_)))
  all_goals
    (conv => whnf)
    have hA : ¬(e.lastHeard = true ∧ e.lastTold = false) ∧ (e.lastTold = true → e.closed = true ∧ e.out.sent = e.out.keep.length ∧ 4 ≤ e.state) := by grind
    have hfs := hs.far
    refine ⟨Nat, fun x => x ≤ e.inn.far.length ∧ ∀ j, j < x → (e.inn.fa j).pl < e.peerLast, fun x => ⟨[(1, .one (.ptr 1 0)), (2, .one (.b false)), (41, .one (.lst 0 0 138 (e.inn.far.map Early.c))), (42, .one (.i .i64 (e.inn.far.map Early.c).length)), (43, .one (.i .i64 x))], [(1, e.c)], [(1, 0)], [1], [1]⟩, fun x => e.inn.far.length - x, 0, fun x => rfl, ?_, (by refine ⟨?_, ?_, ?_⟩ <;> repeat' (first | exact trivial | refine ⟨rfl, ?_⟩)), ?_⟩
    · exact ⟨by omega, fun j hj => by omega⟩
    rintro k ⟨hk, hinv⟩
    (conv => whnf); split <;> rename_i h4 <;> simp only [decide_eq_true_eq, decide_eq_false_iff_not, List.length_map] at h4
    case h_2 =>
      have hke : k = e.inn.far.length := by omega
      subst hke
      have hB : e.inn.under e.peerLast := hinv
      repeat' ((conv => whnf); first
          | (refine goP (in_ok _ _ _) ?_)
          | (split <;> rename_i hq <;> (try simp only [Bool.not_eq_eq_eq_not, Bool.not_true, Bool.not_false, decide_eq_true_eq, decide_eq_false_iff_not, inB_t, inB_f, bytes_len, List.length_map, Bool.and_eq_true, Bool.and_eq_false_iff, and_true] at hq) <;> (try (exfalso; first | omega | (simp_all; done))))
          | (refine goW (by first | omega | (simp; omega)) (by first | omega | (simp; omega)) ?_)
          | (refine ret1 (by rfl) (by rfl) (outB ?_); first | rfl | grind [End.lastP, inB])
          | (refine ret1 (by rfl) (by rfl) (outI ?_); first | rfl | omega | grind [End.lastP, inB])
          | (refine ret1 (by rfl) (by rfl) (outB ?_)) | (refine ret1 (by rfl) (by rfl) (outI ?_)))
    have hlt : k < e.inn.far.length := by omega
    (conv => whnf)
    refine goIdx (e.inn.fa k).c (by omega) rfl (by simpa using far_get hlt) ?_
    repeat' ((conv => whnf); first
        | (refine ret1 (by rfl) (by rfl) (outB (nLast hlt (by omega) (by omega))))
        | (split <;> rename_i hq <;> (try simp only [Bool.not_eq_eq_eq_not, Bool.not_true, Bool.not_false, decide_eq_true_eq, decide_eq_false_iff_not, inB_t, inB_f, bytes_len, List.length_map, Bool.and_eq_true, Bool.and_eq_false_iff, and_true] at hq) <;> (try (exfalso; first | omega | (simp_all; done))))
        | (refine goW (by first | omega | (simp; omega)) (by first | omega | (simp; omega)) ?_)
        | (refine ret1 (by rfl) (by rfl) (outB ?_); first | rfl | grind [inB])
        | (refine ret1 (by rfl) (by rfl) (outI ?_); first | rfl | omega | grind [inB])
        | (refine ret1 (by rfl) (by rfl) (outB ?_)) | (refine ret1 (by rfl) (by rfl) (outI ?_)))
    (conv => whnf)
    refine ⟨k + 1, ?_, (by refine ⟨?_, ?_, ?_⟩ <;> repeat' (first | exact trivial | refine ⟨rfl, ?_⟩)), ?_⟩
    · refine ⟨by omega, fun j hj => ?_⟩
      by_cases hjk : j = k
      · subst hjk; omega
      · exact hinv j (by omega)
    · show e.inn.far.length - (k + 1) < e.inn.far.length - k; omega
end Go.Proofs.Ytpeejmolbmhjjaa.Sx
end

section
namespace Go.Proofs.Ytpeejmolbmhjjaa.Sx
set_option linter.unusedSimpArgs false
set_option linter.unusedVariables false
open Go
set_option maxRecDepth 100000
def End.okP (e : End) : Prop := (0 ≤ e.state ∧ e.state ≤ 5) ∧ (0 ≤ e.addr ∧ e.addr ≤ 65535) ∧ (1 ≤ e.n ∧ e.n ≤ 255) ∧ (0 ≤ e.peerAddr ∧ e.peerAddr ≤ 65535) ∧ (0 ≤ e.peerN ∧ e.peerN ≤ 255) ∧ (0 ≤ e.base ∧ e.base ≤ 65535) ∧
  e.out.ok = true ∧ e.base + 1 ≤ e.out.heard ∧ e.inn.ok = true ∧ e.pulse.ok = true ∧ (0 ≤ e.due ∧ e.due ≤ 1000000) ∧ (0 ≤ e.tries ∧ e.tries ≤ 8) ∧ e.lastP ∧
  (e.state < 4 → e.out.sent = 0 ∧ e.out.heard = e.base + 1) ∧ (e.peerN = 0 ↔ e.state = 0 ∨ e.state = 1) ∧ (e.goesP ∨ (e.due = 0 ∧ (e.tries = 0 ∨ e.state = 5)))
instance (e : End) : Decidable e.okP := by unfold End.okP; infer_instance
theorem endOk_ok (e : End) (hs : e.small) : Pure 36 [e.v] (.pv (bool (decide e.okP))) := by
  have hfs := hs.far
  have hgs := hs.got
  have hks := hs.keep
  have hes := hs.early
  refine fn_of_vc tab_ok mixed Try.call36 Try.func36 rfl [] _ _ (by kernel_rfl) rfl rfl rfl ?_
  repeat' ((conv => whnf); first
      | (refine goP (in_ok _ _ _) ?_)
      | (refine goP (word_ok _) ?_)
      | (refine goP (portOk_ok _) ?_)
      | (refine goP (mouthOk_ok e.out (by omega) (by omega)) ?_)
      | (refine goP (earOk_ok e.inn (by omega) (by omega)) ?_)
      | (refine goP (clockOk_ok e.pulse) ?_)
      | (refine goP (lastOk_ok e hs) ?_)
      | (refine goP (goes_ok e) ?_)
      | (split <;> rename_i hq <;> (try simp only [Bool.not_eq_eq_eq_not, Bool.not_true, Bool.not_false, decide_eq_true_eq, decide_eq_false_iff_not, inB_t, inB_f, bytes_len, List.length_map, Bool.and_eq_true, Bool.and_eq_false_iff, and_true] at hq) <;> (try (exfalso; first | omega | (simp_all; done))))
      | (refine goW (by first | omega | (simp; omega)) (by first | omega | (simp; omega)) ?_)
      | (refine ret1 (by rfl) (by rfl) (outB ?_); first | rfl | grind [End.okP, inB])
      | (refine ret1 (by rfl) (by rfl) (outI ?_); first | rfl | omega | grind [End.okP, inB])
      | (refine ret1 (by rfl) (by rfl) (outB ?_)) | (refine ret1 (by rfl) (by rfl) (outI ?_)))
end Go.Proofs.Ytpeejmolbmhjjaa.Sx
end

section
namespace Go.Proofs.Ytpeejmolbmhjjaa.Sx
set_option linter.unusedSimpArgs false
set_option linter.unusedVariables false
open Go
set_option maxRecDepth 100000
set_option maxHeartbeats 0
theorem Ear.ok_inc {e : Ear} (h : e.ok = true) : ∀ (j k : Nat), j ≤ k → k < e.far.length → (e.fa j).pl ≤ (e.fa k).pl := by
  have h2 : ∀ k, k < e.far.length → e.okAt k = true := by
    simp only [Ear.ok, Bool.and_eq_true, List.all_eq_true, List.mem_range] at h
    exact h.2
  intro j k hjk
  induction k with
  | zero => intro hk; obtain rfl : j = 0 := by omega
            exact Int.le_refl _
  | succ k ih =>
    intro hk
    rcases Nat.lt_or_ge j (k + 1) with hj | hj
    · have h3 := h2 (k + 1) hk
      simp [Ear.okAt] at h3
      have := ih (by omega) (by omega)
      omega
    · obtain rfl : j = k + 1 := by omega
      exact Int.le_refl _
theorem under_last {e : Ear} (h : e.ok = true) (n : Int) : e.under n ↔ (e.far.length = 0 ∨ (e.fa (e.far.length - 1)).pl < n) := by
  constructor
  · intro hu
    rcases Nat.eq_zero_or_pos e.far.length with h0 | h0
    · exact .inl h0
    · exact .inr (hu _ (by omega))
  · rintro (h0 | h0) j hj
    · omega
    · have := Ear.ok_inc h j (e.far.length - 1) (by omega) (by omega); omega
theorem far_last {e : Ear} (h : 0 < e.far.length) : (e.far.map Early.c)[(((e.far.map Early.c).length : Int) - 1).toNat]? = some (e.fa (e.far.length - 1)).c := by
  rw [show (((e.far.map Early.c).length : Int) - 1).toNat = e.far.length - 1 by simp]
  exact far_get (by omega)
theorem Mouth.sentP {m : Mouth} (h : m.ok = true) : 0 ≤ m.sent ∧ m.sent ≤ m.keep.length := (of_decide_eq_true h).1.2.2.1
theorem endOk_ok' (e : End) (hs : e.small) : Pure 42 [e.v] (.pv (bool (decide e.okP))) := by
  have hfs := hs.far
  have hgs := hs.got
  have hks := hs.keep
  have hes := hs.early
  have hul := @under_last e.inn
  have hsp := @Mouth.sentP e.out
  refine fn_of_vc tab_ok mixed Try.call42 Try.func42 rfl [] _ _ (by kernel_rfl) rfl rfl rfl ?_
  repeat' ((conv => whnf); first
      | (refine goP (l1In_ok _ _ _) ?_)
      | (refine goP (mouthOk_ok' e.out (by omega) (by omega)) ?_)
      | (refine goP (earOk_ok' e.inn (by omega) (by omega)) ?_)
      | (refine goP (clockOk_ok' e.pulse) ?_)
      | (refine goP (open_ok e (Mouth.sentP (by assumption))) ?_)
      | (split <;> rename_i hq <;> (try simp only [Bool.not_eq_eq_eq_not, Bool.not_true, Bool.not_false, decide_eq_true_eq, decide_eq_false_iff_not, inB_t, inB_f, bytes_len, List.length_map, Bool.and_eq_true, Bool.and_eq_false_iff, and_true] at hq) <;> (try (exfalso; first | omega | (simp_all; done))))
      | (refine goW (by first | omega | (simp; omega)) (by first | omega | (simp; omega)) ?_)
      | (refine ret1 (by rfl) (by rfl) (outB ?_); first | rfl | grind [End.okP, inB, End.lastP])
      | (refine ret1 (by rfl) (by rfl) (outI ?_); first | rfl | omega | grind [End.okP, inB, End.lastP])
      | (refine ret1 (by rfl) (by rfl) (outB ?_)) | (refine ret1 (by rfl) (by rfl) (outI ?_)))
  all_goals (conv => whnf)
  all_goals
    have hA : e.okP ↔ (e.peerLast = -1 ∨ ((e.inn.far.length = 0 ∨ (e.inn.fa (e.inn.far.length - 1)).pl < e.peerLast) ∧ e.inn.next ≤ e.peerLast ∧ e.peerLast ≤ 1000000)) := by grind [End.okP, End.lastP]
    refine ⟨[0, 1, 2, 3, 4, 5, 6, 7, 8, 9, 10, 11, 12, 13, 14, 15, 16, 17, 18, 19], [(4, [1]), (10, [1]), (17, [1])], (by kernel_rfl), ?_⟩
    (conv => whnf)
    repeat' ((conv => whnf); first
        | (refine goP (l1In_ok _ _ _) ?_)
        | (refine goIdx (e.inn.fa (e.inn.far.length - 1)).c (by simp; omega) rfl (far_last (by omega)) ?_)
        | (refine ret1 (by rfl) (by rfl) (outB ?_); clear hul hsp hs; first | (symm; apply decide_eq_false; rw [hA]; omega) | (symm; apply decide_eq_true; rw [hA]; omega) | (simp only [hA]; grind [inB]))
        | (split <;> rename_i hq <;> (try simp only [Bool.not_eq_eq_eq_not, Bool.not_true, Bool.not_false, decide_eq_true_eq, decide_eq_false_iff_not, inB_t, inB_f, bytes_len, List.length_map, Bool.and_eq_true, Bool.and_eq_false_iff, and_true] at hq) <;> (try (exfalso; first | omega | (simp_all; done))))
        | (refine goW (by first | omega | (simp; omega)) (by first | omega | (simp; omega)) ?_)
        | (refine ret1 (by rfl) (by rfl) (outB ?_); first | rfl | grind [inB])
        | (refine ret1 (by rfl) (by rfl) (outI ?_); first | rfl | omega | grind [inB])
        | (refine ret1 (by rfl) (by rfl) (outB ?_)) | (refine ret1 (by rfl) (by rfl) (outI ?_)))
end Go.Proofs.Ytpeejmolbmhjjaa.Sx
end

section
namespace Go.Proofs.Ytpeejmolbmhjjaa.Sx
set_option linter.unusedSimpArgs false
set_option linter.unusedVariables false
open Go
set_option maxRecDepth 100000
set_option maxHeartbeats 0
section
variable {T : TT}
def resOf (ex : List (Nat × Nat)) (nb : Nat) : List PV → TV
  | [p] => .pv (renP ex nb p)
  | ps => .tup (ps.map (renP ex nb))
def nbOf (m : Nat → Option (List AV)) (ks : List Nat) : Nat → Option (Option (List AV))
  | 0 => some none
  | nb + 1 => match m (nb + 1) with
    | some cs => bif (stripV cs).all AV.clean && !mem? ks (nb + 1) then some (some (stripV cs)) else none
    | none => none
theorem resOf_eq (ex : List (Nat × Nat)) (nb : Nat) (ps : List PV) : resOf ex nb ps = (match ps with | [p] => TV.pv (renP ex nb p) | _ => TV.tup (ps.map (renP ex nb))) := by
  cases ps with
  | nil => rfl
  | cons p r => cases r <;> rfl
theorem retG {rs : List ResultVar} {ks : List Nat} {R : Out → Prop} {s : St} {ps : List PV} {ms : List (List AV)} {nbc : Option (List AV)} (ex : List (Nat × Nat)) (nb : Nat)
    (h : resVs T s rs = some ps) (h1 : exOk s.fs.cur ex = true) (h2 : (ps.all fun p => p.2.all (resA ks nb)) = true) (h3 : memOf s.fs.mem ks = some ms) (h4 : (ms.all fun cs => cs.all AV.clean) = true)
    (h5 : nbOf s.fs.mem ks nb = some nbc)
    (hR : R { tk := tkOf s.fs.cur ex, mem := ms, nb := nbc, res := resOf ex nb ps }) : Hold (atRet T rs ks R s) := by
  refine ⟨.inl ?_⟩
  unfold atRetG
  rw [h]
  refine ⟨ex, nb, h1, h2, ?_⟩
  rw [h3]
  refine ⟨h4, ?_⟩
  rw [resOf_eq] at hR
  cases nb with
  | zero => cases h5; exact hR
  | succ nb =>
    cases hm : s.fs.mem (nb + 1) with
    | none => simp only [nbOf, hm] at h5; cases h5
    | some cs =>
      simp only [nbOf, hm] at h5
      cases hb : ((stripV cs).all AV.clean && !mem? ks (nb + 1)) with
      | false => rw [hb] at h5; cases h5
      | true =>
        rw [hb] at h5
        cases h5
        simp only [Nat.beq, hb]
        exact hR
end
/-- The reader's cells: the bytes and how far it is. -/
def rd (l : List Int) (p : Int) : List AV := [.lst 0 0 5 (bytes l), .i .i64 p]
/-- A draw: from 0 up to n. -/
def drawn (n v : Int) : Prop := 0 ≤ v ∧ (1 ≤ n → v < n) ∧ (n < 1 → v = 0)
def okB (l : List Int) : Prop := l.length ≤ 2000 ∧ ∀ x ∈ l, 0 ≤ x ∧ x ≤ 255
def Reads (f : FuncId) (l : List Int) (p : Int) (args : List PV) (R : Int → PV → Prop) : Prop :=
  FnM Try.prog f [(1000, rd l p)] ((false, [.ptr 1000 0]) :: args) fun o => ∃ p' v, R p' v ∧ o = { mem := [rd l p'], res := .pv v }
def bat (l : List Int) (k : Nat) : Int := l.getD k 0
theorem bytes_get {l : List Int} {k : Nat} (h : k < l.length) : (bytes l)[k]? = some [.i .u8 (bat l k)] := by
  simp [bytes, List.getElem?_map, bat, List.getD, List.getElem?_eq_getElem h]
theorem bat_r {l : List Int} (h : okB l) (k : Nat) : 0 ≤ bat l k ∧ bat l k ≤ 255 := by
  unfold bat List.getD
  cases hq : l[k]? with
  | none => simp
  | some x => exact h.2 x (List.mem_of_getElem? hq)
theorem goB {n : Int} {l : List Int} {c : Bool} {K : List AV → Prop} (h0 : 0 ≤ n) (h1 : n < l.length) (hc : c = true) (hk : K [.i .u8 (bat l n.toNat)]) :
    0 ≤ n ∧ bif c then ∃ cs, (bytes l)[n.toNat]? = some cs ∧ K cs else False := goIdx _ h0 hc (bytes_get (by omega)) hk
theorem goBx {n : Int} {l : List Int} {c : Bool} {K : List AV → Prop} (hl : okB l) (h0 : 0 ≤ n) (h1 : n < l.length) (hc : c = true) (hk : ∀ x, 0 ≤ x → x ≤ 255 → K [.i .u8 x]) :
    0 ≤ n ∧ bif c then ∃ cs, (bytes l)[n.toNat]? = some cs ∧ K cs else False := goB h0 h1 hc (hk _ (bat_r hl _).1 (bat_r hl _).2)
theorem goRem {a b : Int} {K : Int → Prop} (h : 0 ≤ a) (h1 : 0 < b) (hk : ∀ r, 0 ≤ r → r < b → K r) : b ≠ 0 ∧ ∃ r, a.tmod b = r ∧ K r :=
  ⟨by omega, _, rfl, hk _ (Int.tmod_nonneg _ h) (Int.tmod_lt_of_pos _ h1)⟩
theorem goQuo {a b : Int} {K : Int → Prop} (h : 0 ≤ a) (h1 : 0 < b) (h2 : a < 9223372036854775808) (hk : ∀ r, 0 ≤ r → r ≤ a → K r) : b ≠ 0 ∧ ∃ r, IntKind.i64.wrap (a.tdiv b) = r ∧ K r := by
  have e : a.tdiv b = a / b := Int.tdiv_eq_ediv_of_nonneg h
  have h3 : 0 ≤ a / b := Int.ediv_nonneg h (by omega)
  have h4 : a / b ≤ a := Int.ediv_le_self b h
  exact ⟨by omega, _, by rw [e]; exact w64 _ (by omega) (by omega), hk _ h3 h4⟩
theorem ofInt_nat {a : Int} (h : 0 ≤ a) (h2 : a < 9223372036854775808) : (BitVec.ofInt IntKind.i64.bits a).toNat = a.toNat := by
  show (BitVec.ofInt 64 a).toNat = a.toNat
  rw [BitVec.toNat_ofInt]
  congr 1
  exact Int.emod_eq_of_lt h (by omega)
theorem goXor {a b : Int} {K : Int → Prop} (h : 0 ≤ a) (h1 : a < 9223372036854775808) (h2 : 0 ≤ b) (h3 : b < 9223372036854775808) (hk : ∀ r, 0 ≤ r → r < 9223372036854775808 → K r) :
    ∃ r, IntKind.i64.wrap ((BitVec.ofInt IntKind.i64.bits a ^^^ BitVec.ofInt IntKind.i64.bits b).toNat : Nat) = r ∧ K r := by
  have e : (BitVec.ofInt IntKind.i64.bits a ^^^ BitVec.ofInt IntKind.i64.bits b).toNat < 9223372036854775808 := by
    rw [BitVec.toNat_xor, ofInt_nat h h1, ofInt_nat h2 h3]
    exact Nat.xor_lt_two_pow (n := 63) (by omega) (by omega)
  exact ⟨_, w64 _ (by omega) (by omega), hk _ (by omega) (by omega)⟩
theorem pick_ok {l : List Int} (hl : okB l) (p : Int) (hp : 0 ≤ p ∧ p < 1000000000000) (n : Int) (hn : n ≤ 1000000000000) : Reads 88 l p [int n] fun p' v => p' = p + 1 ∧ ∃ i, drawn n i ∧ v = int i := by
  refine fn_of_vc tab_ok mixed Try.call88 Try.func88 rfl [(1000, rd l p)] _ _ (by kernel_rfl) rfl rfl rfl ?_
  (conv => whnf)
  refine goW (by omega) (by omega) ?_; (conv => whnf)
  (conv => whnf); split <;> rename_i hq
  · (conv => whnf)
    refine retG [] 0 (by rfl) (by rfl) (by rfl) (by rfl) (by rfl) (by rfl) ⟨p + 1, int 0, ⟨rfl, 0, ⟨by omega, fun h => by simp at hq; omega, fun _ => rfl⟩, rfl⟩, rfl⟩
  (conv => whnf); split <;> rename_i hq2
  · (conv => whnf)
    refine retG [] 0 (by rfl) (by rfl) (by rfl) (by rfl) (by rfl) (by rfl) ⟨p + 1, int 0, ⟨rfl, 0, ⟨by omega, fun h => by simp at hq; omega, fun _ => rfl⟩, rfl⟩, rfl⟩
  have hbl := bytes_len l
  have hqn : 1 ≤ n := by simp at hq; omega
  (conv => whnf)
  refine goW (by omega) (by omega) ?_; (conv => whnf)
  (conv => whnf); split <;> rename_i hq3
  · have hlt : p + 1 - 1 < l.length := by simpa using hq3
    (conv => whnf)
    repeat' ((conv => whnf); first
        | (refine goBx hl (by omega) (by omega) rfl fun x hx1 hx2 => ?_)
        | (refine goRem (by omega) (by omega) fun r hr1 hr2 => ?_)
        | (refine goXor (by omega) (by omega) (by omega) (by omega) fun r hr1 hr2 => ?_)
        | (refine retG [] 0 (by rfl) (by rfl) (by rfl) (by rfl) (by rfl) (by rfl) ⟨p + 1, int _, ⟨rfl, _, ⟨by omega, fun h => by omega, fun _ => by omega⟩, rfl⟩, rfl⟩)
        | (split <;> rename_i hq <;> (try simp only [Bool.not_eq_eq_eq_not, Bool.not_true, Bool.not_false, decide_eq_true_eq, decide_eq_false_iff_not, inB_t, inB_f, bytes_len, List.length_map, Bool.and_eq_true, Bool.and_eq_false_iff, and_true] at hq) <;> (try (exfalso; first | omega | (simp_all; done))))
        | (refine goW (by first | omega | (simp; omega)) (by first | omega | (simp; omega)) ?_)
        | (refine ret1 (by rfl) (by rfl) (outB ?_); first | rfl | grind [inB])
        | (refine ret1 (by rfl) (by rfl) (outI ?_); first | rfl | omega | grind [inB])
        | (refine ret1 (by rfl) (by rfl) (outB ?_)) | (refine ret1 (by rfl) (by rfl) (outI ?_)))
  (conv => whnf)
  have hl0 : 0 < l.length := by simp only [decide_eq_false_iff_not] at hq2; omega
  have hl1 := hl.1
  refine ⟨[0, 1, 2, 3, 4, 5, 6, 7, 8, 9, 10, 11, 12, 13, 14, 15, 16, 17, 18, 19, 20, 21, 22, 23, 24, 25, 26, 27, 28, 29, 30, 31, 32, 33, 34, 35, 36, 37, 38, 39, 40, 41, 42, 43, 44, 45], [(3, [1000]), (8, [1000]), (18, [1000]), (25, [1000]), (40, [1000])], (by kernel_rfl), ?_⟩
  (conv => whnf)
  repeat' ((conv => whnf); first
      | (refine goBx hl (by omega) (by omega) rfl fun x hx1 hx2 => ?_)
      | (refine goRem (by omega) (by omega) fun r hr1 hr2 => ?_)
      | (refine goQuo (by omega) (by omega) (by omega) fun r hr1 hr2 => ?_)
      | (refine goXor (by omega) (by omega) (by omega) (by omega) fun r hr1 hr2 => ?_)
      | (refine retG [] 0 (by rfl) (by rfl) (by rfl) (by rfl) (by rfl) (by rfl) ⟨p + 1, int _, ⟨rfl, _, ⟨by omega, fun h => by omega, fun _ => by omega⟩, rfl⟩, rfl⟩)
      | (split <;> rename_i hq <;> (try simp only [Bool.not_eq_eq_eq_not, Bool.not_true, Bool.not_false, decide_eq_true_eq, decide_eq_false_iff_not, inB_t, inB_f, bytes_len, List.length_map, Bool.and_eq_true, Bool.and_eq_false_iff, and_true] at hq) <;> (try (exfalso; first | omega | (simp_all; done))))
      | (refine goW (by first | omega | (simp; omega)) (by first | omega | (simp; omega)) ?_)
      | (refine ret1 (by rfl) (by rfl) (outB ?_); first | rfl | grind [inB])
      | (refine ret1 (by rfl) (by rfl) (outI ?_); first | rfl | omega | grind [inB])
      | (refine ret1 (by rfl) (by rfl) (outB ?_)) | (refine ret1 (by rfl) (by rfl) (outI ?_)))
end Go.Proofs.Ytpeejmolbmhjjaa.Sx
end

section
namespace Go.Proofs.Ytpeejmolbmhjjaa.Sx
set_option linter.unusedSimpArgs false
set_option linter.unusedVariables false
open Go Go.RowKit Go.ChangeShapes Go.ChangeAt
set_option maxRecDepth 100000
def IsRow (k : IntKind) (w : World) (a : Option Addr) (len cap : Nat) (zs : List Int) : Prop :=
  (a = none ∧ len = 0 ∧ cap = 0 ∧ zs = []) ∨
  ∃ x, a = some x ∧ x.spot = none ∧ len ≤ cap ∧ zs.length = cap ∧ (∀ i, i < zs.length → w.cell? (x.add i) = some (.int k (zs.getD i 0))) ∧ ∀ n ∈ zs, (Lit.int k n).wf = true
theorem add_addr {x : Addr} (h : x.spot = none) (i : Nat) : x.add i = ⟨x.block, x.off + i, none⟩ := by
  unfold Addr.add
  split
  · next h2 => subst h2; cases x; simp_all
  · rfl
theorem cells5 : Try.prog.cellsOf 5 = 1 := by kernel_rfl
theorem rep_bytes {W : World} {a : Option Addr} {len cap : Nat} {zs : List Int} {β : Nat → Nat} {U : Nat → Bool} (h : IsRow .u8 W a len cap zs) :
    Rep Try.prog (fun _ _ => False) β U W (.lst 0 0 5 (bytes (zs.take len))) (.slice a len cap) := by
  rcases h with ⟨rfl, rfl, rfl, rfl⟩ | ⟨x, rfl, hs, hl, hz, hc, _⟩
  · exact .nil 0 0 5
  obtain ⟨blk, off, sp⟩ := x
  dsimp only at hs
  subst hs
  have hlen : (bytes (zs.take len)).length = len := by simp; omega
  have hel : ∀ (j c : Nat) (xs : List AV) (y : AV), (bytes (zs.take len))[j]? = some xs → xs[c]? = some y → c = 0 ∧ j < zs.length ∧ y = .i .u8 (zs.getD j 0) := by
    intro j c xs y hj hy
    simp only [bytes, List.getElem?_map, Option.map_eq_some_iff] at hj
    obtain ⟨z, hz1, rfl⟩ := hj
    cases c with
    | succ c => simp at hy
    | zero =>
      have hj2 : zs[j]? = some z := by
        rw [List.getElem?_take] at hz1
        split at hz1
        · exact hz1
        · cases hz1
      refine ⟨rfl, (List.getElem?_eq_some_iff.1 hj2).1, ?_⟩
      simp only [List.getElem?_cons_zero, Option.some.injEq] at hy
      rw [← hy, List.getD, hj2]; rfl
  have := Rep.lst (P := Try.prog) (F := fun _ _ => False) (β := β) (U := U) (w := W) 0 0 5 (bytes (zs.take len)) blk off cap (fun j _ => .int .u8 (zs.getD j 0)) (by omega)
    (fun xs hx => by
      rw [cells5]
      simp only [bytes, List.mem_map] at hx
      obtain ⟨z, _, rfl⟩ := hx
      rfl)
    (fun j c xs y hj hy => by
      obtain ⟨rfl, h2, rfl⟩ := hel j c xs y hj hy
      refine ⟨rfl, ?_, fun h => h⟩
      have := hc j h2
      rw [add_addr rfl] at this
      rw [cells5]
      simpa using this)
    (fun j c xs y hj hy => by
      obtain ⟨rfl, h2, rfl⟩ := hel j c xs y hj hy
      exact .i .u8 _)
  rw [hlen] at this
  exact this
theorem law_bytes {f : FuncId} (h : ∀ l : List Int, (∀ x ∈ l, 0 ≤ x ∧ x ≤ 255) → FnM Try.prog f [] [(false, [.lst 0 0 5 (bytes l)])] fun o => o = { res := .pv (false, [.b true]) })
    {W : World} {a : Option Addr} {len cap : Nat} {zs : List Int} (hr : IsRow .u8 W a len cap zs) :
    Calls Try.prog f #[.slice a len cap] W fun e W' => e = .returned (.bool true) ∧ Below W.heap.size W W' := by
  have hb : ∀ x ∈ zs.take len, 0 ≤ x ∧ x ≤ 255 := by
    intro x hx
    have hx := List.mem_of_mem_take hx
    rcases hr with ⟨_, _, _, rfl⟩ | ⟨_, _, _, _, _, _, h7⟩
    · cases hx
    · have := h7 x hx
      simp [Lit.wf, IntKind.min, IntKind.max, IntKind.signed, IntKind.bits] at this
      omega
  refine ((h _ hb).2 (fun _ _ => False) id (fun _ => false) W #[.slice a len cap] (fun _ _ h => h.elim) ⟨rfl, rfl⟩ (fun p hp => by cases hp) (fun p hp => by cases hp) rfl (fun j x u hx hu => ?_)).mono ?_
  · cases j with
    | zero =>
      obtain rfl : x = (false, [.lst 0 0 5 (bytes (zs.take len))]) := by simpa using hx.symm
      obtain rfl : u = .slice a len cap := by simpa using hu.symm
      refine ⟨⟨rfl, fun j y z hy hz => ?_⟩, fun h => (nomatch h), fun _ => rfl⟩
      cases j with
      | zero =>
        obtain rfl : y = .lst 0 0 5 (bytes (zs.take len)) := by simpa using hy.symm
        obtain rfl : z = .slice a len cap := by simpa [Value.cells] using hz.symm
        exact rep_bytes hr
      | succ j => simp at hy
    | succ j => simp at hx
  · rintro e W' ⟨v, o, F', bn, τ, rfl, rfl, hret⟩
    have h1 := (RepP.one_inv hret.res).2.1
    refine ⟨?_, hret.os, hret.tape, hret.out, hret.size, fun k hk => hret.block k hk fun p hp => by cases hp⟩
    cases h1
    rfl
end Go.Proofs.Ytpeejmolbmhjjaa.Sx
end

section
namespace Go.Proofs.Ytpeejmolbmhjjaa.Sx
set_option linter.unusedSimpArgs false
set_option linter.unusedVariables false
open Go Go.RowKit Go.ChangeShapes Go.WideShapes Go.ChangeAt Go.Deep
set_option maxRecDepth 100000
/-- What is read at type t is a row of plain cells that meets Q ('c': if the slices among them lie at plain addresses). -/
def Op (P : Program) (c : Bool) (t : TypeId) (Q : List AV → Prop) : Prop :=
  ∀ (H : Type) (enc : TypeId × Value → H) (w : World) (base : Nat) (spare : Nat → Bool) (held : Bool) (fuel : Nat) (cs : List Value) (x : DataW H × List MemPlace),
    DataW.trod enc P w base spare held fuel t cs = some x → (c = true → ∀ a len cap, Value.slice (some a) len cap ∈ cs → a.spot = none) →
    ∃ av : List AV, (∀ β U, RepL (Rep P (fun _ _ => False) β U w) av cs) ∧ (∀ a ∈ av, a.clean = true) ∧ Q av
/-- The same of a struct's fields from one on. -/
def OpF (P : Program) (c : Bool) (fs : List Field) (off sz : Nat) (Q : List AV → Prop) : Prop :=
  ∀ (H : Type) (enc : TypeId × Value → H) (w : World) (base : Nat) (spare : Nat → Bool) (held : Bool) (fuel : Nat) (cs : List Value), cs.length = off + sz →
    (∀ f ∈ fs, ∃ y : DataW H × List MemPlace, DataW.trod enc P w base spare held fuel f.type ((cs.drop f.offset).take (P.cellsOf f.type)) = some y) →
    (c = true → ∀ a len cap, Value.slice (some a) len cap ∈ cs → a.spot = none) →
    ∃ av : List AV, (∀ β U, RepL (Rep P (fun _ _ => False) β U w) av (cs.drop off)) ∧ (∀ a ∈ av, a.clean = true) ∧ Q av
section
variable {P : Program} {t e : TypeId} {c : Bool}
def isInt (k : IntKind) (av : List AV) : Prop := ∃ n, av = [.i k n] ∧ (Lit.int k n).wf = true
def isBool (av : List AV) : Prop := ∃ b, av = [.b b]
def isLst (e : TypeId) (Q : List AV → Prop) (av : List AV) : Prop := ∃ es, av = [.lst 0 0 e es] ∧ es.length ≤ maxLen ∧ ∀ xs ∈ es, Q xs
def isTwo (Q Q' : List AV → Prop) (av : List AV) : Prop := ∃ a b, av = a ++ b ∧ Q a ∧ Q' b
theorem op_int {k : IntKind} (ht : P.underlying t = some (.int k)) : Op P c t (isInt k) := by
  intro H enc w base spare held fuel cs x h _
  obtain ⟨n, rfl, _, hw⟩ := DataW.trod_int ht h
  exact ⟨[.i k n], fun β U => .cons (.i k n) .nil, by simp [AV.clean], n, rfl, hw⟩
theorem op_bool (ht : P.underlying t = some .bool) : Op P c t isBool := by
  intro H enc w base spare held fuel cs x h _
  obtain ⟨b, rfl, _⟩ := DataW.trod_bool ht h
  exact ⟨[.b b], fun β U => .cons (.b b) .nil, by simp [AV.clean], b, rfl⟩
theorem spot_of_cell {w : World} {a : Addr} {v : Value} (h : w.cell? a = some v) : a.spot = none := by
  unfold World.cell? at h
  split at h
  · split at h
    · cases h
    · rename_i h2; simpa using h2
  · cases h
theorem op_slice {Q : List AV → Prop} {sz : Nat} (ht : P.underlying t = some (.slice e)) (hz : P.cellsOf e = sz + 1) (hd : Op P false e Q) : Op P c t (isLst e Q) := by
  intro H enc w base spare held fuel cs x h _
  rcases open_slice ht h with ⟨rfl, _⟩ | ⟨a, len, cap, m, n, D, Pl, rfl, hb, hl, hm, hmm, _, hi⟩
  · exact ⟨[.lst 0 0 e []], fun β U => .cons (.nil 0 0 e) .nil, by simp [AV.clean], [], rfl, Nat.zero_le _, by simp⟩
  · by_cases hl0 : len = 0
    · subst hl0
      exact ⟨[.lst 0 0 e []], fun β U => .cons (.emp 0 0 e a cap) .nil, by simp [AV.clean], [], rfl, Nat.zero_le _, by simp⟩
    have hs : a.spot = none := by
      obtain ⟨c0, hc0, _⟩ := hi 0 (by rw [hmm]; split <;> omega)
      obtain ⟨_, h2, h3⟩ := World.cells?_some hc0
      have h4 := h3 0 (by omega)
      rw [List.getElem?_eq_getElem (by omega)] at h4
      have h5 : (a.add (0 * P.cellsOf e)).add 0 = a := by simp [Addr.add]
      rw [h5] at h4
      exact spot_of_cell h4
    have hlm : len ≤ m := by rw [hmm]; split <;> omega
    have hx : ∀ i : Fin len, ∃ ys : List AV, (∃ c : List Value, c.length = P.cellsOf e ∧ (∀ β U, RepL (Rep P (fun _ _ => False) β U w) ys c) ∧ ∀ j u, c[j]? = some u → w.cell? (a.add (i.val * P.cellsOf e + j)) = some u) ∧ (∀ y ∈ ys, y.clean = true) ∧ Q ys := by
      intro i
      obtain ⟨c, hc, ht'⟩ := hi i.val (by omega)
      obtain ⟨ys, hK, hcl, hW⟩ := hd _ _ _ _ _ _ _ _ _ ht' (fun h => nomatch h)
      obtain ⟨_, hcl2, hat⟩ := World.cells?_some hc
      refine ⟨ys, ⟨c, hcl2, hK, fun j u hu => ?_⟩, hcl, hW⟩
      have hj : j < c.length := (List.getElem?_eq_some_iff.1 hu).1
      have := hat j (by omega)
      rw [Go.Deep.add_add] at this
      exact this.trans hu
    have hlen : (List.ofFn fun i => Classical.choose (hx i)).length = len := List.length_ofFn
    have hel : ∀ (j : Nat) (xs : List AV), (List.ofFn fun i => Classical.choose (hx i))[j]? = some xs → ∃ hj : j < len, xs = Classical.choose (hx ⟨j, hj⟩) := by
      intro j xs hj
      have hjl : j < len := by
        have := (List.getElem?_eq_some_iff.1 hj).1
        omega
      refine ⟨hjl, ?_⟩
      rw [List.getElem?_ofFn, dif_pos hjl] at hj
      exact (Option.some.inj hj).symm
    refine ⟨[.lst 0 0 e (List.ofFn fun i => Classical.choose (hx i))], fun β U => .cons ?_ .nil, by simp [AV.clean], _, rfl, by rw [hlen]; omega, fun xs hxs => ?_⟩
    · obtain ⟨blk, off, sp⟩ := a
      dsimp only at hs
      subst hs
      have := Rep.lst (P := P) (F := fun _ _ => False) (β := β) (U := U) (w := w) 0 0 e (List.ofFn fun i => Classical.choose (hx i)) blk off cap (fun j c => (w.cell? ⟨blk, off + (j * P.cellsOf e + c), none⟩).getD undef) (by omega)
        (fun xs hxs => by
          obtain ⟨i, rfl⟩ := List.mem_ofFn.1 hxs
          obtain ⟨⟨c, h1, h2, _⟩, _, _⟩ := Classical.choose_spec (hx i)
          exact (h2 β U).1.trans h1)
        (fun j c xs y hj hy => by
          obtain ⟨hjl, rfl⟩ := hel j xs hj
          obtain ⟨⟨cl, h1, h2, h3⟩, h4, _⟩ := Classical.choose_spec (hx ⟨j, hjl⟩)
          obtain ⟨u, hu, _⟩ := (h2 β U).get hy
          have h5 := h3 c u hu
          rw [add_addr rfl] at h5
          refine ⟨h4 y (List.mem_of_getElem? hy), ?_, fun h => h⟩
          have h6 : w.cell? ⟨blk, off + (j * P.cellsOf e + c), none⟩ = some u := h5
          rw [h6]; rfl)
        (fun j c xs y hj hy => by
          obtain ⟨hjl, rfl⟩ := hel j xs hj
          obtain ⟨⟨cl, h1, h2, h3⟩, h4, _⟩ := Classical.choose_spec (hx ⟨j, hjl⟩)
          obtain ⟨u, hu, hr⟩ := (h2 β U).get hy
          have h5 := h3 c u hu
          rw [add_addr rfl] at h5
          have h6 : w.cell? ⟨blk, off + (j * P.cellsOf e + c), none⟩ = some u := h5
          rw [h6]; exact hr)
      rw [hlen] at this
      exact this
    · obtain ⟨i, rfl⟩ := List.mem_ofFn.1 hxs
      obtain ⟨_, _, h5⟩ := Classical.choose_spec (hx i)
      exact h5
theorem opF_one {Q : List AV → Prop} {f : Field} {off sz : Nat} (hd : Op P c f.type Q) (ho : f.offset = off) (hz : P.cellsOf f.type = sz) : OpF P c [f] off sz Q := by
  intro H enc w base spare held fuel cs hl hf hsp
  obtain ⟨y, hy⟩ := hf f (List.mem_singleton.2 rfl)
  obtain ⟨av, h1, h2, h3⟩ := hd _ _ _ _ _ _ _ _ _ hy (fun h a len cap hm => hsp h a len cap (List.mem_of_mem_drop (List.mem_of_mem_take hm)))
  rw [ho, hz, List.take_of_length_le (by rw [List.length_drop]; omega)] at h1
  exact ⟨av, h1, h2, h3⟩
theorem opF_cons {Q Q' : List AV → Prop} {f : Field} {fs : List Field} {off sz sz' : Nat} (hd : Op P c f.type Q) (ho : f.offset = off) (hz : P.cellsOf f.type = sz)
    (hr : OpF P c fs (off + sz) sz' Q') : OpF P c (f :: fs) off (sz + sz') (isTwo Q Q') := by
  intro H enc w base spare held fuel cs hl hf hsp
  obtain ⟨y, hy⟩ := hf f List.mem_cons_self
  obtain ⟨av, h1, h2, h3⟩ := hd _ _ _ _ _ _ _ _ _ hy (fun h a len cap hm => hsp h a len cap (List.mem_of_mem_drop (List.mem_of_mem_take hm)))
  obtain ⟨bs, g1, g2, g3⟩ := hr H enc w base spare held fuel cs (by omega) (fun g hg => hf g (List.mem_cons_of_mem _ hg)) hsp
  rw [ho, hz] at h1
  refine ⟨av ++ bs, fun β U => ?_, fun a ha => (List.mem_append.1 ha).elim (h2 a) (g2 a), av, bs, rfl, h3, g3⟩
  have := (h1 β U).append (g1 β U)
  rwa [← List.drop_drop, List.take_append_drop] at this
theorem op_struct {Q : List AV → Prop} {fs : Array Field} {sz : Nat} (ht : P.underlying t = some (.struct fs)) (hf : OpF P c fs.toList 0 sz Q) (hz : P.cellsOf t = sz) : Op P c t Q := by
  intro H enc w base spare held fuel cs x h hsp
  obtain ⟨xs, n, _, _, hl, hxl, hx⟩ := DataW.trod_struct ht h
  obtain ⟨av, h1, h2, h3⟩ := hf H enc w base spare held n cs (by rw [hl, hz]; omega) (fun q hq => by
    obtain ⟨i, hi, rfl⟩ := List.getElem_of_mem hq
    have hi' : i < fs.size := by simpa using hi
    refine ⟨xs[i]'(by omega), ?_⟩
    rw [hx i _ (by simp), List.getElem?_eq_getElem (by omega)]) hsp
  exact ⟨av, by simpa using h1, h2, h3⟩
theorem spot_of_okWide {w : World} {r : Reach} {base : Nat} {cs : Array Value} (h : Row.okWide P w r base t cs) (a : Addr) (len cap : Nat) (hm : Value.slice (some a) len cap ∈ cs.toList) : a.spot = none := by
  obtain ⟨ts, _, _, hc⟩ := h
  obtain ⟨i, hi⟩ := List.getElem?_of_mem hm
  obtain ⟨u, _, hu⟩ := hc i _ (by simpa using hi)
  unfold Cell.okWide at hu
  split at hu <;> first | (rename_i h1 h2; cases h2; done) | skip
  unfold Cell.ok at hu
  split at hu <;> first | (rename_i h1 h2; cases h2; exact hu.2.2.2.1) | (rename_i h1 h2; cases h2; done) | exact hu.elim
end
/-- A list's elements, told one by one. -/
theorem list_of {α : Type} {Q : List AV → Prop} {W : α → Prop} {f : α → List AV} (h : ∀ xs, Q xs → ∃ a, xs = f a ∧ W a) : ∀ es : List (List AV), (∀ xs ∈ es, Q xs) → ∃ av : List α, es = av.map f ∧ ∀ a ∈ av, W a
  | [], _ => ⟨[], rfl, by simp⟩
  | xs :: es, hq => by
    obtain ⟨a, rfl, h1⟩ := h xs (hq xs (by simp))
    obtain ⟨av, rfl, h2⟩ := list_of h es fun y hy => hq y (by simp [hy])
    exact ⟨a :: av, rfl, fun b hb => (List.mem_cons.1 hb).elim (fun e => e ▸ h1) (h2 b)⟩
theorem law_args {f : FuncId} {args : List PV} (h : FnM Try.prog f [] args fun o => o = { res := .pv (false, [.b true]) }) {W : World} {vals : Array Value} (hl : args.length = vals.size)
    (hr : ∀ (j : Nat) (x : PV) (u : Value), args[j]? = some x → vals[j]? = some u → RepP (Rep Try.prog (fun _ _ => False) id (fun _ => false) W) x u) :
    Calls Try.prog f vals W fun e W' => e = .returned (.bool true) ∧ Below W.heap.size W W' := by
  refine (h.2 (fun _ _ => False) id (fun _ => false) W vals (fun _ _ h => h.elim) ⟨rfl, rfl⟩ (fun p hp => by cases hp) (fun p hp => by cases hp) hl hr).mono ?_
  rintro e W' ⟨v, o, F', bn, τ, rfl, rfl, hret⟩
  have h1 := (RepP.one_inv hret.res).2.1
  refine ⟨?_, hret.os, hret.tape, hret.out, hret.size, fun k hk => hret.block k hk fun p hp => by cases hp⟩
  cases h1
  rfl
end Go.Proofs.Ytpeejmolbmhjjaa.Sx
end

section
namespace Go.Proofs.Ytpeejmolbmhjjaa.Sx
set_option linter.unusedSimpArgs false
set_option linter.unusedVariables false
open Go
set_option maxRecDepth 100000
set_option maxHeartbeats 0
def AV.nop : AV → Bool
  | .ptr _ _ | .row _ _ _ | .nl _ _ => false
  | _ => true
theorem AV.nop_of_clean {x : AV} (h : x.clean = true) : x.nop = true := by cases x <;> first | rfl | cases h
theorem Rep.noptr {P : Program} {F : Nat → Nat → Prop} {β β' : Nat → Nat} {U U' : Nat → Bool} {w : World} {a : AV} {v : Value} (h : Rep P F β U w a v) (ha : a.nop = true) : Rep P F β' U' w a v := by
  induction h with
  | nul v h => exact .nul v h
  | b x => exact .b x
  | i k n => exact .i k n
  | s x => exact .s x
  | nilp => exact .nilp
  | fn g => exact .fn g
  | ptr bx off h => cases ha
  | row bx n e h => cases ha
  | eptr cs blk off vals h1 h2 ih => exact .eptr cs blk off vals h1 fun c x hx => ih c x hx (AV.nop_of_clean (h1 c x hx).1)
  | nil t v e => exact .nil t v e
  | emp t v e a cap => exact .emp t v e a cap
  | nln e => cases ha
  | nl e es blk cap vals hcap hlen h1 h2 h3 ih => cases ha
  | lst t v e es blk off cap vals hcap hlen h1 h2 ih =>
    exact .lst t v e es blk off cap vals hcap hlen h1 fun j c xs x hx hy => ih j c xs x hx hy (AV.nop_of_clean (h1 j c xs x hx hy).1)
def PV.nop (p : PV) : Bool := p.2.all AV.nop
def TV.nop : TV → Bool
  | .pv p => PV.nop p
  | .tup ps => ps.all PV.nop
  | .no => true
theorem RepL.noptr {P : Program} {F : Nat → Nat → Prop} {β β' : Nat → Nat} {U U' : Nat → Bool} {w : World} {cs : List AV} {vs : List Value} (h : RepL (Rep P F β U w) cs vs) (ha : cs.all AV.nop = true) : RepL (Rep P F β' U' w) cs vs :=
  ⟨h.1, fun j x u hx hu => (h.2 j x u hx hu).noptr (List.all_eq_true.1 ha x (List.mem_of_getElem? hx))⟩
theorem FnM.ren {P : Program} {f : FuncId} {k : Nat} {cs : List AV} {rest : List PV} {R : Out → Prop} (h : FnM P f [(k, cs)] ((false, [.ptr k 0]) :: rest) R) (hk : Nat.beq 0 k = false ∧ Nat.beq K0 k = false) (hcs : cs.all AV.nop = true) (hrest : rest.all PV.nop = true)
    (hR : ∀ o, R o → o.res.nop = true) (b : Nat) : FnM P f [(b, cs)] ((false, [.ptr b 0]) :: rest) R := by
  refine ⟨h.1, fun F β U w vals h1 h2 h3 h4 h5 h6 => ?_⟩
  obtain ⟨hu, ⟨arr, ty, ha1, ha2⟩, hF⟩ := h3 (b, cs) (by simp)
  refine (h.2 F (fun _ => β b) (fun j => Nat.beq j k) w vals h1 hk (fun p hp => ?_) (fun p hp q hq _ => ?_) h5 (fun j x u hx hv => ?_)).mono ?_
  · obtain rfl : p = (k, cs) := by simpa using hp
    exact ⟨by simp, ⟨arr, ty, ha1, ha2.noptr hcs⟩, hF⟩
  · obtain rfl : p = (k, cs) := by simpa using hp
    obtain rfl : q = (k, cs) := by simpa using hq
    rfl
  · cases j with
    | zero =>
      obtain rfl : x = (false, [.ptr k 0]) := by simpa using hx.symm
      have h7 := h6 0 _ u rfl hv
      refine ⟨⟨h7.1.1, fun c y z hy hz => ?_⟩, h7.2⟩
      cases c with
      | zero =>
        obtain rfl : y = .ptr k 0 := by simpa using hy.symm
        have h8 := h7.1.2 0 (.ptr b 0) z rfl hz
        cases h8 with
        | ptr _ _ _ => exact Rep.ptr (β := fun _ => β b) k 0 (by simp)
      | succ c => simp at hy
    | succ j =>
      have hx' : rest[j]? = some x := by simpa using hx
      have h7 := h6 (j + 1) x u (by simpa using hx) hv
      exact ⟨h7.1.noptr (List.all_eq_true.1 hrest x (List.mem_of_getElem? hx')), h7.2⟩
  · rintro e w' ⟨v, o, F', bn, τ, he, ho, hret⟩
    have hn := hR o ho
    refine ⟨v, o, F', bn, τ, he, ho, ?_⟩
    exact {
      os := hret.os, tape := hret.tape, out := hret.out, size := hret.size, pln := hret.pln
      block := fun j hj hne => hret.block j hj fun p hp => by
        have := hne (b, cs) (by simp)
        exact this
      len := by simpa using hret.len
      mem := fun j p ds hp hd => by
        cases j with
        | zero =>
          obtain rfl : p = (b, cs) := by simpa using hp.symm
          obtain ⟨hc, arr', ty', h7, h8⟩ := hret.mem 0 (k, cs) ds rfl hd
          exact ⟨hc, arr', ty', h7, h8.noptr (List.all_eq_true.2 fun x hx => AV.nop_of_clean (hc x hx))⟩
        | succ j => simp at hp
      F1 := hret.F1, F2 := hret.F2, F3 := hret.F3
      new := fun ds hd => by
        obtain ⟨hc, h7, h8, arr', ty', h9, h10⟩ := hret.new ds hd
        exact ⟨hc, h7, h8, arr', ty', h9, h10.noptr (List.all_eq_true.2 fun x hx => AV.nop_of_clean (hc x hx))⟩
      tk := hret.tk, tok := hret.tok, tin := hret.tin
      res := by
        have hres := hret.res
        cases hq : o.res with
        | no => trivial
        | pv p =>
          rw [hq] at hres hn
          exact ⟨⟨hres.1.1, fun j x u hx hu => ⟨(hres.1.2 j x u hx hu).1.noptr (List.all_eq_true.1 hn x (List.mem_of_getElem? hx)), (hres.1.2 j x u hx hu).2⟩⟩, hres.2⟩
        | tup ps =>
          rw [hq] at hres hn
          obtain ⟨arr', h7, h8, h9⟩ := hres
          refine ⟨arr', h7, h8, fun i x u hx hu => ?_⟩
          have h10 := h9 i x u hx hu
          have hn' := List.all_eq_true.1 hn x (List.mem_of_getElem? hx)
          exact ⟨⟨h10.1.1, fun j y z hy hz => ⟨(h10.1.2 j y z hy hz).1.noptr (List.all_eq_true.1 hn' y (List.mem_of_getElem? hy)), (h10.1.2 j y z hy hz).2⟩⟩, h10.2⟩ }
end Go.Proofs.Ytpeejmolbmhjjaa.Sx
end

section
namespace Go.Proofs.Ytpeejmolbmhjjaa.Sx
set_option linter.unusedSimpArgs false
set_option linter.unusedVariables false
open Go
set_option maxRecDepth 100000
set_option maxHeartbeats 0
theorem goRd {f : FuncId} {b : Nat} {l : List Int} {p : Int} {args : List PV} {R : Int → PV → Prop} {M : Nat → Option (List AV)} {ok : Nat → Bool} {K : List (Nat × List AV) → Out → Prop} (h : Reads f l p args R) (ha : args.all PV.nop = true)
    (hr : ∀ p' v, R p' v → PV.nop v = true) (hm : memIs M ok [(b, rd l p)]) (hk : ∀ p' v, R p' v → K [(b, rd l p)] { mem := [rd l p'], res := .pv v }) :
    ∃ (m : List (Nat × List AV)) (R : Out → Prop), FnM Try.prog f m ((false, [.ptr b 0]) :: args) R ∧ memIs M ok m ∧ ∀ o, R o → (o.tk.all fun x => Nat.ble 2 x.1 && Nat.blt x.1 9) = true → K m o :=
  ⟨[(b, rd l p)], _, h.ren (by decide) rfl ha (by rintro o ⟨p', v, h1, rfl⟩; exact hr p' v h1) b, hm, fun o ho _ => by obtain ⟨p', v, h1, rfl⟩ := ho; exact hk p' v h1⟩
theorem goPick {b : Nat} {l : List Int} {p n : Int} {M : Nat → Option (List AV)} {ok : Nat → Bool} {K : List (Nat × List AV) → Out → Prop} (hl : okB l) (hm : memIs M ok [(b, rd l p)]) (hp : 0 ≤ p ∧ p < 1000000000000) (hn : n ≤ 1000000000000)
    (hk : ∀ i, 0 ≤ i → (n < 1 ∧ i = 0 ∨ 1 ≤ n ∧ i < n) → K [(b, rd l p)] { mem := [rd l (p + 1)], res := .pv (int i) }) :
    ∃ (m : List (Nat × List AV)) (R : Out → Prop), FnM Try.prog 88 m [(false, [.ptr b 0]), int n] R ∧ memIs M ok m ∧ ∀ o, R o → (o.tk.all fun x => Nat.ble 2 x.1 && Nat.blt x.1 9) = true → K m o :=
  goRd (pick_ok hl p hp n hn) rfl (by rintro p' v ⟨_, i, _, rfl⟩; rfl) hm (by rintro p' v ⟨rfl, i, hi, rfl⟩; exact hk i hi.1 ((Int.lt_or_le n 1).elim (fun h => .inl ⟨h, hi.2.2 h⟩) fun h => .inr ⟨h, hi.2.1 h⟩))
theorem word_r {l : List Int} (hl : okB l) (p : Int) (hp : 0 ≤ p ∧ p < 900000000000) : Reads 90 l p [] fun p' v => (p ≤ p' ∧ p' ≤ p + 3) ∧ ∃ i, (0 ≤ i ∧ i ≤ 65535) ∧ v = int i := by
  refine fn_of_vc tab_ok mixed Try.call90 Try.func90 rfl [(1000, rd l p)] _ _ (by kernel_rfl) rfl rfl rfl ?_
  (conv => whnf)
  repeat' ((conv => whnf); first
      | (refine goPick hl (by exact ⟨⟨rfl, rfl⟩, trivial⟩) (by omega) (by omega) fun i hi1 hi2 => ?_)
      | (refine retG [] 0 (by rfl) (by rfl) (by rfl) (by rfl) (by rfl) (by rfl) ⟨_, int _, ⟨?_, _, ?_, rfl⟩, rfl⟩ <;> omega)
      | (split <;> rename_i hq <;> (try simp only [Bool.not_eq_eq_eq_not, Bool.not_true, Bool.not_false, decide_eq_true_eq, decide_eq_false_iff_not, inB_t, inB_f, bytes_len, List.length_map, Bool.and_eq_true, Bool.and_eq_false_iff, and_true] at hq) <;> (try (exfalso; first | omega | (simp_all; done))))
      | (refine goW (by first | omega | (simp; omega)) (by first | omega | (simp; omega)) ?_)
      | (refine ret1 (by rfl) (by rfl) (outB ?_); first | rfl | grind [inB])
      | (refine ret1 (by rfl) (by rfl) (outI ?_); first | rfl | omega | grind [inB])
      | (refine ret1 (by rfl) (by rfl) (outB ?_)) | (refine ret1 (by rfl) (by rfl) (outI ?_)))
theorem goWord {b : Nat} {l : List Int} {p : Int} {M : Nat → Option (List AV)} {ok : Nat → Bool} {K : List (Nat × List AV) → Out → Prop} (hl : okB l) (hm : memIs M ok [(b, rd l p)]) (hp : 0 ≤ p ∧ p < 900000000000)
    (hk : ∀ p' i, p ≤ p' → p' ≤ p + 3 → 0 ≤ i → i ≤ 65535 → K [(b, rd l p)] { mem := [rd l p'], res := .pv (int i) }) :
    ∃ (m : List (Nat × List AV)) (R : Out → Prop), FnM Try.prog 90 m [(false, [.ptr b 0])] R ∧ memIs M ok m ∧ ∀ o, R o → (o.tk.all fun x => Nat.ble 2 x.1 && Nat.blt x.1 9) = true → K m o :=
  goRd (word_r hl p hp) rfl (by rintro p' v ⟨_, i, _, rfl⟩; rfl) hm (by rintro p' v ⟨⟨h1, h2⟩, i, hi, rfl⟩; exact hk p' i h1 h2 hi.1 hi.2)
theorem open_r {l : List Int} (hl : l.length ≤ 1048576) (h2 : ∀ x ∈ l, 0 ≤ x ∧ x ≤ 255) : FnM Try.prog 78 [] [(false, [.lst 0 0 5 (bytes l)])] fun o => ∃ l', okB l' ∧ o = { nb := some (rd l' 0), res := .one (.ptr 0 0) } := by
  refine fn_of_vc tab_ok mixed Try.call78 Try.func78 rfl [] _ _ (by kernel_rfl) rfl rfl rfl ?_
  (conv => whnf); split <;> rename_i hq
  · (conv => whnf)
    refine ⟨by omega, by simp at hq; simp; omega, ?_⟩
    (conv => whnf)
    refine retG [] 10 (by rfl) (by rfl) (by rfl) (by rfl) (by rfl) (by rfl) ⟨l.take 2000, ⟨by simp; omega, fun x hx => h2 x (List.mem_of_mem_take hx)⟩, ?_⟩
    show ({ nb := some [AV.lst 0 0 5 ((bytes l).take 2000), .i .i64 0], res := .one (.ptr 0 0) } : Out) = _
    simp only [rd, bytes, List.map_take]
  · (conv => whnf)
    refine retG [] 10 (by rfl) (by rfl) (by rfl) (by rfl) (by rfl) (by rfl) ⟨l, ⟨by simp at hq; omega, h2⟩, rfl⟩
/-- The drawn numbers of a new end. -/
theorem drawEndNew_r {l : List Int} (hl : l.length ≤ 1048576) (h2 : ∀ x ∈ l, 0 ≤ x ∧ x ≤ 255) : FnM Try.prog 32 [] [(false, [.lst 0 0 5 (bytes l)])] fun o =>
    ∃ a b c d : Int, (0 ≤ a ∧ a ≤ 600000) ∧ (0 ≤ b ∧ b < 260) ∧ (0 ≤ c ∧ c ≤ 600000) ∧ (0 ≤ d ∧ d < 36) ∧ o = { res := .tup [int a, int b, int c, int d] } := by
  refine fn_of_vc tab_ok mixed Try.call32 Try.func32 rfl [] _ _ (by kernel_rfl) rfl rfl rfl ?_
  (conv => whnf)
  refine ⟨[], _, open_r hl h2, trivial, ?_⟩
  rintro o ⟨l', hl', rfl⟩ _
  repeat' ((conv => whnf); first
      | (refine goPick hl' (by exact ⟨⟨rfl, rfl⟩, trivial⟩) (by omega) (by omega) fun i hi1 hi2 => ?_)
      | (refine goWord hl' (by exact ⟨⟨rfl, rfl⟩, trivial⟩) (by omega) fun p' i hp1 hp2 hi1 hi2 => ?_)
      | (refine goQuo (by omega) (by omega) (by omega) fun r hr1 hr2 => ?_)
      | (refine retG [] 0 (by rfl) (by rfl) (by rfl) (by rfl) (by rfl) (by rfl) ⟨_, _, _, _, ?_, ?_, ?_, ?_, rfl⟩ <;> omega)
      | (split <;> rename_i hq <;> (try simp only [Bool.not_eq_eq_eq_not, Bool.not_true, Bool.not_false, decide_eq_true_eq, decide_eq_false_iff_not, inB_t, inB_f, bytes_len, List.length_map, Bool.and_eq_true, Bool.and_eq_false_iff, and_true] at hq) <;> (try (exfalso; first | omega | (simp_all; done))))
      | (refine goW (by first | omega | (simp; omega)) (by first | omega | (simp; omega)) ?_)
      | (refine ret1 (by rfl) (by rfl) (outB ?_); first | rfl | grind [inB])
      | (refine ret1 (by rfl) (by rfl) (outI ?_); first | rfl | omega | grind [inB])
      | (refine ret1 (by rfl) (by rfl) (outB ?_)) | (refine ret1 (by rfl) (by rfl) (outI ?_)))
end Go.Proofs.Ytpeejmolbmhjjaa.Sx
end

section
namespace Go.Proofs.Ytpeejmolbmhjjaa.Sx
set_option linter.unusedSimpArgs false
set_option linter.unusedVariables false
open Go
set_option maxRecDepth 100000
set_option maxHeartbeats 0
def zeroEnd : End := ⟨0, 0, 0, 0, 0, 0, ⟨0, [], 0, 0, []⟩, ⟨0, 0, [], []⟩, false, false, false, 0, 0, 0, ⟨0, 0, 0⟩⟩
def newEnd (a b c d : Int) : End := ⟨0, a, b, 0, 0, c, ⟨c + 1, [], 0, 0, []⟩, ⟨0, d, [], []⟩, false, false, false, -1, 0, 0, ⟨0, 0, 24⟩⟩
def newP (a b c d : Int) : Prop := (0 ≤ a ∧ a ≤ 65535) ∧ (1 ≤ b ∧ b ≤ 255) ∧ (0 ≤ c ∧ c ≤ 65535) ∧ (1 ≤ d ∧ d ≤ 32)
instance (a b c d : Int) : Decidable (newP a b c d) := by unfold newP; infer_instance
def theNew (a b c d : Int) : End := if newP a b c d then newEnd a b c d else zeroEnd
theorem newEnd_small (a b c d : Int) : (newEnd a b c d).small := ⟨by simp [newEnd], by simp [newEnd], by simp [newEnd], by simp [newEnd]⟩
theorem zeroEnd_small : zeroEnd.small := ⟨by simp [zeroEnd], by simp [zeroEnd], by simp [zeroEnd], by simp [zeroEnd]⟩
theorem newEnd_ok (a b c d : Int) : (newEnd a b c d).okP ↔ newP a b c d := by
  show End.okP ⟨0, a, b, 0, 0, c, ⟨c + 1, [], 0, 0, []⟩, ⟨0, d, [], []⟩, false, false, false, -1, 0, 0, ⟨0, 0, 24⟩⟩ ↔ _
  have h1 : Mouth.ok ⟨c + 1, [], 0, 0, []⟩ = decide (0 ≤ c + 1 ∧ c + 1 ≤ 1000000) := by
    rw [Mouth.ok, decide_eq_decide]; simp [Mouth.base, okR]
  have h2 : Ear.ok ⟨0, d, [], []⟩ = decide (1 ≤ d ∧ d ≤ 32) := by
    rw [Bool.eq_iff_iff]; simp only [Ear.ok, inB]; simp; omega
  simp only [End.okP, h1, h2, newP, decide_eq_true_eq]
  simp [Clock.ok, inB, End.lastP, End.goesP]
  omega
theorem zeroEnd_not : ¬ zeroEnd.okP := by simp [zeroEnd, End.okP]
theorem endNew_ok (a b c d : Int) : Pure 33 [int a, int b, int c, int d] (.pv (theNew a b c d).v) := by
  refine fn_of_vc tab_ok mixed Try.call33 Try.func33 rfl [] _ _ (by kernel_rfl) rfl rfl rfl ?_
  repeat' ((conv => whnf); first
      | (refine goP (in_ok _ _ _) ?_)
      | (refine goP (word_ok _) ?_)
      | (refine goP (portOk_ok _) ?_)
      | (refine goP (clockNew_ok _) ?_)
      | (split <;> rename_i hq <;> (try simp only [Bool.not_eq_eq_eq_not, Bool.not_true, Bool.not_false, decide_eq_true_eq, decide_eq_false_iff_not, inB_t, inB_f, bytes_len, List.length_map, Bool.and_eq_true, Bool.and_eq_false_iff, and_true] at hq) <;> (try (exfalso; first | omega | (simp_all; done))))
      | (refine goW (by first | omega | (simp; omega)) (by first | omega | (simp; omega)) ?_)
      | (refine ret1 (by rfl) (by rfl) (outB ?_); first | rfl | grind [inB])
      | (refine ret1 (by rfl) (by rfl) (outI ?_); first | rfl | omega | grind [inB])
      | (refine ret1 (by rfl) (by rfl) (outB ?_)) | (refine ret1 (by rfl) (by rfl) (outI ?_)))
  all_goals (conv => whnf)
  all_goals first
    | (have hn : theNew a b c d = zeroEnd := if_neg (by unfold newP; omega)
       rw [hn]; exact ret1 (by rfl) (by rfl) (by rfl))
    | (have hn : theNew a b c d = newEnd a b c d := if_pos (by unfold newP; omega)
       rw [hn]; exact ret1 (by rfl) (by rfl) (by rfl))
theorem endNew_ok' (a b c d : Int) (hc : -1000000000 ≤ c ∧ c ≤ 1000000000) : Pure 35 [int a, int b, int c, int d] (.pv (theNew a b c d).v) := by
  refine fn_of_vc tab_ok mixed Try.call35 Try.func35 rfl [] _ _ (by kernel_rfl) rfl rfl rfl ?_
  repeat' ((conv => whnf); first
      | (refine goP (clockNew_ok' _) ?_)
      | (refine goP (endOk_ok' (newEnd a b c d) (newEnd_small a b c d)) ?_)
      | (split <;> rename_i hq <;> (try simp only [Bool.not_eq_eq_eq_not, Bool.not_true, Bool.not_false, decide_eq_true_eq, decide_eq_false_iff_not, inB_t, inB_f, bytes_len, List.length_map, Bool.and_eq_true, Bool.and_eq_false_iff, and_true] at hq) <;> (try (exfalso; first | omega | (simp_all; done))))
      | (refine goW (by first | omega | (simp; omega)) (by first | omega | (simp; omega)) ?_)
      | (refine ret1 (by rfl) (by rfl) (outB ?_); first | rfl | grind [inB])
      | (refine ret1 (by rfl) (by rfl) (outI ?_); first | rfl | omega | grind [inB])
      | (refine ret1 (by rfl) (by rfl) (outB ?_)) | (refine ret1 (by rfl) (by rfl) (outI ?_)))
  all_goals (conv => whnf)
  all_goals first
    | (have hn : theNew a b c d = zeroEnd := if_neg (by rw [← newEnd_ok]; exact hq)
       rw [hn]; exact ret1 (by rfl) (by rfl) (by rfl))
    | (have hn : theNew a b c d = newEnd a b c d := if_pos (by rw [← newEnd_ok]; exact hq)
       rw [hn]; exact ret1 (by rfl) (by rfl) (by rfl))
theorem Ear.roomP {e : Ear} (h : e.ok = true) : 1 ≤ e.room ∧ e.room ≤ 32 := by
  simp only [Ear.ok, Bool.and_eq_true, inB_iff] at h; exact h.1.1.2
theorem earFree_ok (e : Ear) (hl : e.far.length < 1000000000) (hg : e.got.length < 1000000000) : Pure 37 [e.v] (.pv (int (if e.ok then e.room - e.got.length else 0))) := by
  refine fn_of_vc tab_ok mixed Try.call37 Try.func37 rfl [] _ _ (by kernel_rfl) rfl rfl rfl ?_
  have hr := @Ear.roomP e
  repeat' ((conv => whnf); first
      | (refine goP (earOk_ok e hl hg) ?_)
      | ((have := hr hq; refine goP (free_ok e (by omega) (by omega) hg) ?_))
      | (split <;> rename_i hq <;> (try simp only [Bool.not_eq_eq_eq_not, Bool.not_true, Bool.not_false, decide_eq_true_eq, decide_eq_false_iff_not, inB_t, inB_f, bytes_len, List.length_map, Bool.and_eq_true, Bool.and_eq_false_iff, and_true] at hq) <;> (try (exfalso; first | omega | (simp_all; done))))
      | (refine goW (by first | omega | (simp; omega)) (by first | omega | (simp; omega)) ?_)
      | (refine ret1 (by rfl) (by rfl) (outB ?_); first | rfl | grind [inB])
      | (refine ret1 (by rfl) (by rfl) (outI ?_); first | rfl | omega | grind [inB])
      | (refine ret1 (by rfl) (by rfl) (outB ?_)) | (refine ret1 (by rfl) (by rfl) (outI ?_)))
theorem sameBytes_ok (l : List Int) : Pure 69 [(false, [.lst 0 0 5 (bytes l)]), (false, [.lst 0 0 5 (bytes l)])] (.pv (bool true)) := by
  have hb : ∀ (xs : List AV), xs ∈ bytes l → ∃ n, xs = [AV.i IntKind.u8 n] := by
    intro xs hx
    simp only [bytes, List.mem_map] at hx
    obtain ⟨n, _, rfl⟩ := hx
    exact ⟨n, rfl⟩
  refine fn_of_vc tab_ok mixed Try.call69 Try.func69 rfl [] _ _ (by kernel_rfl) rfl rfl rfl ?_
  (conv => whnf); refine ⟨hb, ?_⟩
  (conv => whnf); refine ⟨hb, ?_⟩
  (conv => whnf)
  refine ret1 (by rfl) (by rfl) (outB ?_)
  simp
theorem sameMouth_ok (m : Mouth) (he : m.early.length < 1100000) : Pure 94 [m.v, m.v] (.pv (bool true)) := by
  refine fn_of_vc tab_ok mixed Try.call94 Try.func94 rfl [] _ _ (by kernel_rfl) rfl rfl rfl ?_
  repeat' ((conv => whnf); first
      | (refine goP (sameBytes_ok m.keep) ?_)
      | (refine goP (sameR_ok m.early m.early (by omega) (by omega)) ?_)
      | (split <;> rename_i hq <;> (try simp only [Bool.not_eq_eq_eq_not, Bool.not_true, Bool.not_false, decide_eq_true_eq, decide_eq_false_iff_not, inB_t, inB_f, bytes_len, List.length_map, Bool.and_eq_true, Bool.and_eq_false_iff, and_true] at hq) <;> (try (exfalso; first | omega | (simp_all; done))))
      | (refine goW (by first | omega | (simp; omega)) (by first | omega | (simp; omega)) ?_)
      | (refine ret1 (by rfl) (by rfl) (outB ?_); first | rfl | grind [inB])
      | (refine ret1 (by rfl) (by rfl) (outI ?_); first | rfl | omega | grind [inB])
      | (refine ret1 (by rfl) (by rfl) (outB ?_)) | (refine ret1 (by rfl) (by rfl) (outI ?_)))
theorem sameEar_ok (e : Ear) (he : e.far.length < 1100000) : Pure 95 [e.v, e.v] (.pv (bool true)) := by
  refine fn_of_vc tab_ok mixed Try.call95 Try.func95 rfl [] _ _ (by kernel_rfl) rfl rfl rfl ?_
  repeat' ((conv => whnf); first
      | (refine goP (sameBytes_ok e.got) ?_)
      | (split <;> rename_i hq <;> (try simp only [Bool.not_eq_eq_eq_not, Bool.not_true, Bool.not_false, decide_eq_true_eq, decide_eq_false_iff_not, inB_t, inB_f, bytes_len, List.length_map, Bool.and_eq_true, Bool.and_eq_false_iff, and_true] at hq) <;> (try (exfalso; first | omega | (simp_all; done))))
      | (refine goW (by first | omega | (simp; omega)) (by first | omega | (simp; omega)) ?_)
      | (refine ret1 (by rfl) (by rfl) (outB ?_); first | rfl | grind [inB])
      | (refine ret1 (by rfl) (by rfl) (outI ?_); first | rfl | omega | grind [inB])
      | (refine ret1 (by rfl) (by rfl) (outB ?_)) | (refine ret1 (by rfl) (by rfl) (outI ?_)))
  all_goals (conv => whnf)
  refine ⟨Nat, fun x => x ≤ e.far.length, fun x => ⟨[(2, .one (.ptr 2 0)), (3, .one (.ptr 3 0)), (5, .one (.i .i64 x))], [(2, e.c), (3, e.c)], [(1, 0)], [2,3], [1]⟩, fun x => e.far.length - x, 0, fun x => rfl, ?_, (by refine ⟨?_, ?_, ?_⟩ <;> repeat' (first | exact trivial | refine ⟨rfl, ?_⟩)), ?_⟩
  · show 0 ≤ e.far.length; omega
  rintro k hk
  (conv => whnf); split <;> rename_i h4 <;> simp only [decide_eq_true_eq, decide_eq_false_iff_not, List.length_map] at h4
  case h_2 =>
    (conv => whnf); refine ret1 (by rfl) (by rfl) (outB rfl)
  have hlt : k < e.far.length := by omega
  (conv => whnf)
  refine ⟨[0, 1, 2, 3, 4, 5, 6, 7, 8, 9, 10], [(1, [2]), (6, [3])], (by kernel_rfl), ?_⟩
  (conv => whnf)
  repeat' ((conv => whnf); first
      | (refine ⟨rfl, ?_⟩)
      | (refine goIdx (e.fa k).c (by omega) rfl (by simpa using far_get hlt) ?_)
      | (split <;> rename_i hq <;> (try simp only [Bool.not_eq_eq_eq_not, Bool.not_true, Bool.not_false, decide_eq_true_eq, decide_eq_false_iff_not, inB_t, inB_f, bytes_len, List.length_map, Bool.and_eq_true, Bool.and_eq_false_iff, and_true] at hq) <;> (try (exfalso; first | omega | (simp_all; done))))
      | (refine goW (by first | omega | (simp; omega)) (by first | omega | (simp; omega)) ?_)
      | (refine ret1 (by rfl) (by rfl) (outB ?_); first | rfl | grind [inB])
      | (refine ret1 (by rfl) (by rfl) (outI ?_); first | rfl | omega | grind [inB])
      | (refine ret1 (by rfl) (by rfl) (outB ?_)) | (refine ret1 (by rfl) (by rfl) (outI ?_)))
  all_goals (conv => whnf)
  refine ⟨k + 1, ?_, (by refine ⟨?_, ?_, ?_⟩ <;> repeat' (first | exact trivial | refine ⟨rfl, ?_⟩)), ?_⟩
  · show k + 1 ≤ e.far.length; omega
  · show e.far.length - (k + 1) < e.far.length - k; omega
theorem sameEnd_ok (e : End) (hs : e.small) : Pure 34 [e.v, e.v] (.pv (bool true)) := by
  have hfs := hs.far
  have hes := hs.early
  refine fn_of_vc tab_ok mixed Try.call34 Try.func34 rfl [] _ _ (by kernel_rfl) rfl rfl rfl ?_
  repeat' ((conv => whnf); first
      | (refine ⟨rfl, ?_⟩)
      | (refine goP (sameMouth_ok e.out (by omega)) ?_)
      | (refine goP (sameEar_ok e.inn (by omega)) ?_)
      | (split <;> rename_i hq <;> (try simp only [Bool.not_eq_eq_eq_not, Bool.not_true, Bool.not_false, decide_eq_true_eq, decide_eq_false_iff_not, inB_t, inB_f, bytes_len, List.length_map, Bool.and_eq_true, Bool.and_eq_false_iff, and_true] at hq) <;> (try (exfalso; first | omega | (simp_all; done))))
      | (refine goW (by first | omega | (simp; omega)) (by first | omega | (simp; omega)) ?_)
      | (refine ret1 (by rfl) (by rfl) (outB ?_); first | rfl | grind [inB])
      | (refine ret1 (by rfl) (by rfl) (outI ?_); first | rfl | omega | grind [inB])
      | (refine ret1 (by rfl) (by rfl) (outB ?_)) | (refine ret1 (by rfl) (by rfl) (outI ?_)))
end Go.Proofs.Ytpeejmolbmhjjaa.Sx
end

section
namespace Go.Proofs.Ytpeejmolbmhjjaa.Sx
set_option linter.unusedSimpArgs false
set_option linter.unusedVariables false
open Go
set_option maxRecDepth 100000
set_option maxHeartbeats 0
def End.overP (e : End) : Prop := e.peerLast = e.inn.next ∧ e.inn.got.length = 0
instance (e : End) : Decidable e.overP := by unfold End.overP; infer_instance
theorem over_ok (e : End) : Pure 85 [e.v] (.pv (bool (decide e.overP))) := by
  refine fn_of_vc tab_ok mixed Try.call85 Try.func85 rfl [] _ _ (by kernel_rfl) rfl rfl rfl ?_
  repeat' ((conv => whnf); first
      | (fail)
      | (split <;> rename_i hq <;> (try simp only [Bool.not_eq_eq_eq_not, Bool.not_true, Bool.not_false, decide_eq_true_eq, decide_eq_false_iff_not, inB_t, inB_f, bytes_len, List.length_map, Bool.and_eq_true, Bool.and_eq_false_iff, and_true] at hq) <;> (try (exfalso; first | omega | (simp_all; done))))
      | (refine goW (by first | omega | (simp; omega)) (by first | omega | (simp; omega)) ?_)
      | (refine ret1 (by rfl) (by rfl) (outB ?_); first | rfl | grind [End.overP, bytes_len])
      | (refine ret1 (by rfl) (by rfl) (outI ?_); first | rfl | omega | grind [End.overP, bytes_len])
      | (refine ret1 (by rfl) (by rfl) (outB ?_)) | (refine ret1 (by rfl) (by rfl) (outI ?_)))
theorem endOver_ok (e : End) (hs : e.small) : Pure 45 [e.v] (.pv (bool (decide (e.okP ∧ e.overP)))) := by
  refine fn_of_vc tab_ok mixed Try.call45 Try.func45 rfl [] _ _ (by kernel_rfl) rfl rfl rfl ?_
  repeat' ((conv => whnf); first
      | (refine goP (endOk_ok e hs) ?_)
      | (refine goP (over_ok e) ?_)
      | (split <;> rename_i hq <;> (try simp only [Bool.not_eq_eq_eq_not, Bool.not_true, Bool.not_false, decide_eq_true_eq, decide_eq_false_iff_not, inB_t, inB_f, bytes_len, List.length_map, Bool.and_eq_true, Bool.and_eq_false_iff, and_true] at hq) <;> (try (exfalso; first | omega | (simp_all; done))))
      | (refine goW (by first | omega | (simp; omega)) (by first | omega | (simp; omega)) ?_)
      | (refine ret1 (by rfl) (by rfl) (outB ?_); first | rfl | grind [End.overP, bytes_len])
      | (refine ret1 (by rfl) (by rfl) (outI ?_); first | rfl | omega | grind [End.overP, bytes_len])
      | (refine ret1 (by rfl) (by rfl) (outB ?_)) | (refine ret1 (by rfl) (by rfl) (outI ?_)))
theorem endOver_ok' (e : End) (hs : e.small) : Pure 44 [e.v] (.pv (bool (decide (e.okP ∧ e.overP)))) := by
  refine fn_of_vc tab_ok mixed Try.call44 Try.func44 rfl [] _ _ (by kernel_rfl) rfl rfl rfl ?_
  repeat' ((conv => whnf); first
      | (refine goP (endOk_ok' e hs) ?_)
      | (split <;> rename_i hq <;> (try simp only [Bool.not_eq_eq_eq_not, Bool.not_true, Bool.not_false, decide_eq_true_eq, decide_eq_false_iff_not, inB_t, inB_f, bytes_len, List.length_map, Bool.and_eq_true, Bool.and_eq_false_iff, and_true] at hq) <;> (try (exfalso; first | omega | (simp_all; done))))
      | (refine goW (by first | omega | (simp; omega)) (by first | omega | (simp; omega)) ?_)
      | (refine ret1 (by rfl) (by rfl) (outB ?_); first | rfl | grind [End.overP, bytes_len])
      | (refine ret1 (by rfl) (by rfl) (outI ?_); first | rfl | omega | grind [End.overP, bytes_len])
      | (refine ret1 (by rfl) (by rfl) (outB ?_)) | (refine ret1 (by rfl) (by rfl) (outI ?_)))
def End.ready (e : End) : Int :=
  if e.okP then (if 0 < e.inn.got.length ∨ e.overP ∨ e.state = 5 then 1 else 0) + (if e.state = 4 ∧ e.closed = false ∧ e.out.keep.length < 32 then 2 else 0) + (if e.state = 5 ∨ (e.overP ∧ e.lastHeard = true) then 4 else 0) else 0
theorem ready_ok (e : End) (hs : e.small) : Pure 22 [e.v] (.pv (int e.ready)) := by
  refine fn_of_vc tab_ok mixed Try.call22 Try.func22 rfl [] _ _ (by kernel_rfl) rfl rfl rfl ?_
  repeat' ((conv => whnf); first
      | (refine goP (endOk_ok e hs) ?_)
      | (split <;> rename_i hq <;> (try simp only [Bool.not_eq_eq_eq_not, Bool.not_true, Bool.not_false, decide_eq_true_eq, decide_eq_false_iff_not, inB_t, inB_f, bytes_len, List.length_map, Bool.and_eq_true, Bool.and_eq_false_iff, and_true] at hq) <;> (try (exfalso; first | omega | (simp_all; done))))
      | (refine goW (by first | omega | (simp; omega)) (by first | omega | (simp; omega)) ?_)
      | (refine ret1 (by rfl) (by rfl) (outB ?_); first | rfl | grind [End.ready])
      | (refine ret1 (by rfl) (by rfl) (outI ?_); first | rfl | omega | grind [End.ready])
      | (refine ret1 (by rfl) (by rfl) (outB ?_)) | (refine ret1 (by rfl) (by rfl) (outI ?_)))
  all_goals (conv => whnf)
  all_goals
    refine ⟨[0, 1, 2, 3, 4, 5, 6, 13, 14, 15, 30, 7, 8, 9, 10, 11, 12, 16, 17, 18, 19, 20, 21, 22, 23, 24, 25, 26, 27, 28, 29, 31, 32, 33, 34, 35, 36, 37, 38, 39, 40, 41], [(2, [1]), (6, [1]), (14, [1]), (18, [1]), (24, [1]), (32, [1]), (36, [1])], (by kernel_rfl), ?_⟩
    (conv => whnf)
    repeat' ((conv => whnf); first
        | (refine goP (over_ok e) ?_)
        | (refine goP (bit_ok _ _) ?_)
        | (split <;> rename_i hq <;> (try simp only [Bool.not_eq_eq_eq_not, Bool.not_true, Bool.not_false, decide_eq_true_eq, decide_eq_false_iff_not, inB_t, inB_f, bytes_len, List.length_map, Bool.and_eq_true, Bool.and_eq_false_iff, and_true] at hq) <;> (try (exfalso; first | omega | (simp_all; done))))
        | (refine goW (by first | omega | (simp; omega)) (by first | omega | (simp; omega)) ?_)
        | (refine ret1 (by rfl) (by rfl) (outB ?_); first | rfl | grind [End.ready, bytes_len])
        | (refine ret1 (by rfl) (by rfl) (outI ?_); first | rfl | omega | grind [End.ready, bytes_len])
        | (refine ret1 (by rfl) (by rfl) (outB ?_)) | (refine ret1 (by rfl) (by rfl) (outI ?_)))
theorem ready_ok' (e : End) (hs : e.small) : Pure 46 [e.v] (.pv (int e.ready)) := by
  refine fn_of_vc tab_ok mixed Try.call46 Try.func46 rfl [] _ _ (by kernel_rfl) rfl rfl rfl ?_
  repeat' ((conv => whnf); first
      | (refine goP (endOk_ok' e hs) ?_)
      | (refine goP (endOver_ok' e hs) ?_)
      | (split <;> rename_i hq <;> (try simp only [Bool.not_eq_eq_eq_not, Bool.not_true, Bool.not_false, decide_eq_true_eq, decide_eq_false_iff_not, inB_t, inB_f, bytes_len, List.length_map, Bool.and_eq_true, Bool.and_eq_false_iff, and_true] at hq) <;> (try (exfalso; first | omega | (simp_all; done))))
      | (refine goW (by first | omega | (simp; omega)) (by first | omega | (simp; omega)) ?_)
      | (refine ret1 (by rfl) (by rfl) (outB ?_); first | rfl | grind [End.ready, bytes_len])
      | (refine ret1 (by rfl) (by rfl) (outI ?_); first | rfl | omega | grind [End.ready, bytes_len])
      | (refine ret1 (by rfl) (by rfl) (outB ?_)) | (refine ret1 (by rfl) (by rfl) (outI ?_)))
end Go.Proofs.Ytpeejmolbmhjjaa.Sx
end

section
namespace Go.Proofs.Ytpeejmolbmhjjaa.Sx
set_option linter.unusedSimpArgs false
set_option linter.unusedVariables false
open Go
set_option maxRecDepth 100000
set_option maxHeartbeats 0
def hasV (a w : Int) : Bool := decide ((a.tdiv w).tmod 2 = 1)
def bth (a b w : Int) : Int := if hasV a w = true ∧ hasV b w = true then w else 0
def bothK (a b : Int) : Nat → Int
  | 0 => 0
  | 1 => bth a b 1
  | 2 => bth a b 1 + bth a b 2
  | _ => bth a b 1 + bth a b 2 + bth a b 4
theorem has_ok (a w : Int) (ha : 0 ≤ a ∧ a < 1000000000) (hw : 1 ≤ w ∧ w ≤ 4) : Pure 135 [int a, int w] (.pv (bool (hasV a w))) := by
  refine fn_of_vc tab_ok mixed Try.call135 Try.func135 rfl [] _ _ (by kernel_rfl) rfl rfl rfl ?_
  (conv => whnf); refine ⟨by omega, _, w64 _ (by have := Int.tdiv_nonneg (b := w) ha.1 (by omega); omega) (by rw [Int.tdiv_eq_ediv_of_nonneg ha.1]; have := Int.ediv_le_self w ha.1; omega), ?_⟩
  (conv => whnf); refine ⟨by decide, _, rfl, ?_⟩
  (conv => whnf); exact ret1 (by rfl) (by rfl) (by rfl)
theorem bth_r (a b w : Int) (hw : 0 ≤ w) : 0 ≤ bth a b w ∧ bth a b w ≤ w := by unfold bth; split <;> omega
theorem bothK_r (a b : Int) : ∀ k, 0 ≤ bothK a b k ∧ bothK a b k ≤ 7
  | 0 => by simp [bothK]
  | 1 => by have := bth_r a b 1 (by omega); simp only [bothK]; omega
  | 2 => by have := bth_r a b 1 (by omega); have := bth_r a b 2 (by omega); simp only [bothK]; omega
  | k + 3 => by have := bth_r a b 1 (by omega); have := bth_r a b 2 (by omega); have := bth_r a b 4 (by omega); simp only [bothK]; omega
theorem both_ok (a b : Int) (ha : 0 ≤ a ∧ a < 1000000000) (hb : 0 ≤ b ∧ b < 1000000000) : Pure 82 [int a, int b] (.pv (int (bothK a b 3))) := by
  refine fn_of_vc tab_ok mixed Try.call82 Try.func82 rfl [] _ _ (by kernel_rfl) rfl rfl rfl ?_
  (conv => whnf)
  refine ⟨Nat × Int, fun x => x.1 ≤ 3 ∧ x.2 = bothK a b x.1, fun x => ⟨[(0, .one (.i .i64 a)), (1, .one (.i .i64 b)), (5, .one (.i .i64 x.2)), (8, .one (.lst 0 0 3 [[.i .i64 1], [.i .i64 2], [.i .i64 4]])), (9, .one (.i .i64 3)), (10, .one (.i .i64 x.1))], [], [(1, 0)], [], [1]⟩, fun x => 3 - x.1, (0, 0), fun x => rfl, ?_, (by refine ⟨?_, ?_, ?_⟩ <;> repeat' (first | exact trivial | refine ⟨rfl, ?_⟩)), ?_⟩
  · exact ⟨by omega, rfl⟩
  rintro ⟨k, s⟩ ⟨hk, hs⟩
  dsimp only at hk hs
  have hk3 : k = 0 ∨ k = 1 ∨ k = 2 ∨ k = 3 := by omega
  have hr := bothK_r a b k
  rw [← hs] at hr
  rcases hk3 with rfl | rfl | rfl | rfl
  all_goals
    repeat' ((conv => whnf); first
        | (refine goP (has_ok _ _ (by omega) (by omega)) ?_)
        | (refine goIdx _ (by omega) rfl rfl ?_)
        | (split <;> rename_i hq <;> (try simp only [Bool.not_eq_eq_eq_not, Bool.not_true, Bool.not_false, decide_eq_true_eq, decide_eq_false_iff_not, inB_t, inB_f, bytes_len, List.length_map, Bool.and_eq_true, Bool.and_eq_false_iff, and_true] at hq) <;> (try (exfalso; first | omega | (simp_all; done))))
        | (refine goW (by first | omega | (simp; omega)) (by first | omega | (simp; omega)) ?_)
        | (refine ret1 (by rfl) (by rfl) (outB ?_); first | rfl | grind [bothK])
        | (refine ret1 (by rfl) (by rfl) (outI ?_); first | rfl | omega | grind [bothK])
        | (refine ret1 (by rfl) (by rfl) (outB ?_)) | (refine ret1 (by rfl) (by rfl) (outI ?_)))
  all_goals (conv => whnf)
  all_goals first
    | (refine ⟨(1, _), ?_, (by refine ⟨?_, ?_, ?_⟩ <;> repeat' (first | exact trivial | refine ⟨rfl, ?_⟩)), ?_⟩
       · exact ⟨by omega, by simp [hs, bothK, bth, *]⟩
       · exact (by decide : 3 - 1 < 3 - 0))
    | (refine ⟨(2, _), ?_, (by refine ⟨?_, ?_, ?_⟩ <;> repeat' (first | exact trivial | refine ⟨rfl, ?_⟩)), ?_⟩
       · exact ⟨by omega, by simp [hs, bothK, bth, *]⟩
       · exact (by decide : 3 - 2 < 3 - 1))
    | (refine ⟨(3, _), ?_, (by refine ⟨?_, ?_, ?_⟩ <;> repeat' (first | exact trivial | refine ⟨rfl, ?_⟩)), ?_⟩
       · exact ⟨by omega, by simp [hs, bothK, bth, *]⟩
       · exact (by decide : 3 - 3 < 3 - 2))
theorem and_fin : ∀ x y : Fin 8, IntKind.i64.wrap ((BitVec.ofInt IntKind.i64.bits (x.val : Int) &&& BitVec.ofInt IntKind.i64.bits (y.val : Int)).toNat : Nat) = bothK x.val y.val 3 := by decide +kernel
theorem andNot_fin : ∀ x y : Fin 8, IntKind.i64.wrap ((BitVec.ofInt IntKind.i64.bits (x.val : Int) &&& ~~~ BitVec.ofInt IntKind.i64.bits (y.val : Int)).toNat : Nat) = x.val - bothK x.val y.val 3 := by decide +kernel
theorem goAnd {a b : Int} {K : Int → Prop} (ha : 0 ≤ a ∧ a ≤ 7) (hb : 0 ≤ b ∧ b ≤ 7) (hk : K (bothK a b 3)) : ∃ r, IntKind.i64.wrap ((BitVec.ofInt IntKind.i64.bits a &&& BitVec.ofInt IntKind.i64.bits b).toNat : Nat) = r ∧ K r := by
  obtain ⟨x, rfl⟩ := Int.eq_ofNat_of_zero_le ha.1
  obtain ⟨y, rfl⟩ := Int.eq_ofNat_of_zero_le hb.1
  exact ⟨_, and_fin ⟨x, by omega⟩ ⟨y, by omega⟩, hk⟩
theorem goAndNot {a b : Int} {K : Int → Prop} (ha : 0 ≤ a ∧ a ≤ 7) (hb : 0 ≤ b ∧ b ≤ 7) (hk : K (a - bothK a b 3)) : ∃ r, IntKind.i64.wrap ((BitVec.ofInt IntKind.i64.bits a &&& ~~~ BitVec.ofInt IntKind.i64.bits b).toNat : Nat) = r ∧ K r := by
  obtain ⟨x, rfl⟩ := Int.eq_ofNat_of_zero_le ha.1
  obtain ⟨y, rfl⟩ := Int.eq_ofNat_of_zero_le hb.1
  exact ⟨_, andNot_fin ⟨x, by omega⟩ ⟨y, by omega⟩, hk⟩
theorem bothK_comm (a b : Int) (k : Nat) : bothK a b k = bothK b a k := by
  have h : ∀ w, bth a b w = bth b a w := fun w => by unfold bth; simp only [and_comm]
  match k with
  | 0 => rfl
  | 1 => exact h 1
  | 2 => simp only [bothK, h]
  | k + 3 => simp only [bothK, h]
structure Watch where
  asks : Int
  told : Int
def Watch.c (w : Watch) : List AV := [.i .i64 w.asks, .i .i64 w.told]
abbrev Watch.v (w : Watch) : PV := (true, w.c)
def Watch.okP (w : Watch) : Prop := (0 ≤ w.asks ∧ w.asks ≤ 7) ∧ (0 ≤ w.told ∧ w.told ≤ 7) ∧ bothK w.asks w.told 3 = w.told
instance (w : Watch) : Decidable w.okP := by unfold Watch.okP; infer_instance
theorem watchOk_ok (w : Watch) : Pure 21 [w.v] (.pv (bool (decide w.okP))) := by
  have hc := bothK_comm w.asks w.told 3
  refine fn_of_vc tab_ok mixed Try.call21 Try.func21 rfl [] _ _ (by kernel_rfl) rfl rfl rfl ?_
  repeat' ((conv => whnf); first
      | (refine goP (in_ok _ _ _) ?_)
      | (refine goAndNot (by omega) (by omega) ?_)
      | (split <;> rename_i hq <;> (try simp only [Bool.not_eq_eq_eq_not, Bool.not_true, Bool.not_false, decide_eq_true_eq, decide_eq_false_iff_not, inB_t, inB_f, bytes_len, List.length_map, Bool.and_eq_true, Bool.and_eq_false_iff, and_true] at hq) <;> (try (exfalso; first | omega | (simp_all; done))))
      | (refine goW (by first | omega | (simp; omega)) (by first | omega | (simp; omega)) ?_)
      | (refine ret1 (by rfl) (by rfl) (outB ?_); first | rfl | grind [Watch.okP])
      | (refine ret1 (by rfl) (by rfl) (outI ?_); first | rfl | omega | grind [Watch.okP])
      | (refine ret1 (by rfl) (by rfl) (outB ?_)) | (refine ret1 (by rfl) (by rfl) (outI ?_)))
theorem watchOk_ok' (w : Watch) : Pure 81 [w.v] (.pv (bool (decide w.okP))) := by
  refine fn_of_vc tab_ok mixed Try.call81 Try.func81 rfl [] _ _ (by kernel_rfl) rfl rfl rfl ?_
  (conv => whnf)
  refine ⟨[0, 1, 2, 3, 4, 5, 6, 7, 8, 9, 10, 11, 12, 14, 15, 13, 16, 17, 18], [(1, [1]), (5, [1]), (10, [1]), (12, [1]), (15, [1])], (by kernel_rfl), ?_⟩
  (conv => whnf)
  repeat' ((conv => whnf); first
      | (refine goP (l1In_ok _ _ _) ?_)
      | (refine goP (both_ok _ _ (by omega) (by omega)) ?_)
      | (split <;> rename_i hq <;> (try simp only [Bool.not_eq_eq_eq_not, Bool.not_true, Bool.not_false, decide_eq_true_eq, decide_eq_false_iff_not, inB_t, inB_f, bytes_len, List.length_map, Bool.and_eq_true, Bool.and_eq_false_iff, and_true] at hq) <;> (try (exfalso; first | omega | (simp_all; done))))
      | (refine goW (by first | omega | (simp; omega)) (by first | omega | (simp; omega)) ?_)
      | (refine ret1 (by rfl) (by rfl) (outB ?_); first | rfl | grind [Watch.okP])
      | (refine ret1 (by rfl) (by rfl) (outI ?_); first | rfl | omega | grind [Watch.okP])
      | (refine ret1 (by rfl) (by rfl) (outB ?_)) | (refine ret1 (by rfl) (by rfl) (outI ?_)))
theorem ready_r (e : End) : 0 ≤ e.ready ∧ e.ready ≤ 7 := by unfold End.ready; split <;> (repeat' split) <;> omega
/-- What a watch's level comes to. -/
def Watch.level (w : Watch) (e : End) : Int := if w.okP then bothK w.asks e.ready 3 else 0
theorem watchLevel_ok (w : Watch) (e : End) (hs : e.small) : Pure 19 [w.v, e.v] (.pv (int (w.level e))) := by
  have hr := ready_r e
  refine fn_of_vc tab_ok mixed Try.call19 Try.func19 rfl [] _ _ (by kernel_rfl) rfl rfl rfl ?_
  repeat' ((conv => whnf); first
      | (refine goP (watchOk_ok w) ?_)
      | (split <;> rename_i hq <;> (try simp only [Bool.not_eq_eq_eq_not, Bool.not_true, Bool.not_false, decide_eq_true_eq, decide_eq_false_iff_not, inB_t, inB_f, bytes_len, List.length_map, Bool.and_eq_true, Bool.and_eq_false_iff, and_true] at hq) <;> (try (exfalso; first | omega | (simp_all; done))))
      | (refine goW (by first | omega | (simp; omega)) (by first | omega | (simp; omega)) ?_)
      | (refine ret1 (by rfl) (by rfl) (outB ?_); first | rfl | grind [Watch.level])
      | (refine ret1 (by rfl) (by rfl) (outI ?_); first | rfl | omega | grind [Watch.level])
      | (refine ret1 (by rfl) (by rfl) (outB ?_)) | (refine ret1 (by rfl) (by rfl) (outI ?_)))
  all_goals (conv => whnf)
  have hq' : w.okP := hq
  have hw := hq'.1
  refine ⟨[0, 1, 2, 3, 4, 5], [(1, [2]), (2, [3])], (by kernel_rfl), ?_⟩
  (conv => whnf)
  repeat' ((conv => whnf); first
      | (refine goP (ready_ok e hs) ?_)
      | (refine goAnd (by omega) (by omega) ?_)
      | (split <;> rename_i hq <;> (try simp only [Bool.not_eq_eq_eq_not, Bool.not_true, Bool.not_false, decide_eq_true_eq, decide_eq_false_iff_not, inB_t, inB_f, bytes_len, List.length_map, Bool.and_eq_true, Bool.and_eq_false_iff, and_true] at hq) <;> (try (exfalso; first | omega | (simp_all; done))))
      | (refine goW (by first | omega | (simp; omega)) (by first | omega | (simp; omega)) ?_)
      | (refine ret1 (by rfl) (by rfl) (outB ?_); first | rfl | grind [Watch.level])
      | (refine ret1 (by rfl) (by rfl) (outI ?_); first | rfl | omega | grind [Watch.level])
      | (refine ret1 (by rfl) (by rfl) (outB ?_)) | (refine ret1 (by rfl) (by rfl) (outI ?_)))
theorem watchLevel_ok' (w : Watch) (e : End) (hs : e.small) : Pure 20 [w.v, e.v] (.pv (int (w.level e))) := by
  have hr := ready_r e
  refine fn_of_vc tab_ok mixed Try.call20 Try.func20 rfl [] _ _ (by kernel_rfl) rfl rfl rfl ?_
  repeat' ((conv => whnf); first
      | (refine goP (watchOk_ok' w) ?_)
      | (split <;> rename_i hq <;> (try simp only [Bool.not_eq_eq_eq_not, Bool.not_true, Bool.not_false, decide_eq_true_eq, decide_eq_false_iff_not, inB_t, inB_f, bytes_len, List.length_map, Bool.and_eq_true, Bool.and_eq_false_iff, and_true] at hq) <;> (try (exfalso; first | omega | (simp_all; done))))
      | (refine goW (by first | omega | (simp; omega)) (by first | omega | (simp; omega)) ?_)
      | (refine ret1 (by rfl) (by rfl) (outB ?_); first | rfl | grind [Watch.level])
      | (refine ret1 (by rfl) (by rfl) (outI ?_); first | rfl | omega | grind [Watch.level])
      | (refine ret1 (by rfl) (by rfl) (outB ?_)) | (refine ret1 (by rfl) (by rfl) (outI ?_)))
  all_goals (conv => whnf)
  have hq' : w.okP := hq
  have hw := hq'.1
  refine ⟨[0, 1, 2, 3, 4, 5], [(1, [2]), (2, [3])], (by kernel_rfl), ?_⟩
  (conv => whnf)
  repeat' ((conv => whnf); first
      | (refine goP (ready_ok' e hs) ?_)
      | (refine goP (both_ok _ _ (by omega) (by omega)) ?_)
      | (split <;> rename_i hq <;> (try simp only [Bool.not_eq_eq_eq_not, Bool.not_true, Bool.not_false, decide_eq_true_eq, decide_eq_false_iff_not, inB_t, inB_f, bytes_len, List.length_map, Bool.and_eq_true, Bool.and_eq_false_iff, and_true] at hq) <;> (try (exfalso; first | omega | (simp_all; done))))
      | (refine goW (by first | omega | (simp; omega)) (by first | omega | (simp; omega)) ?_)
      | (refine ret1 (by rfl) (by rfl) (outB ?_); first | rfl | grind [Watch.level])
      | (refine ret1 (by rfl) (by rfl) (outI ?_); first | rfl | omega | grind [Watch.level])
      | (refine ret1 (by rfl) (by rfl) (outB ?_)) | (refine ret1 (by rfl) (by rfl) (outI ?_)))
end Go.Proofs.Ytpeejmolbmhjjaa.Sx
end

section
namespace Go.Proofs.Ytpeejmolbmhjjaa.Sx
set_option linter.unusedSimpArgs false
set_option linter.unusedVariables false
open Go
set_option maxRecDepth 100000
set_option maxHeartbeats 0
theorem level_r (w : Watch) (e : End) : 0 ≤ w.level e ∧ w.level e ≤ 7 := by
  unfold Watch.level; split
  · exact bothK_r _ _ 3
  · omega
def Watch.edgeW (w : Watch) (e : End) : Watch := if w.okP then ⟨w.asks, w.level e⟩ else ⟨0, 0⟩
def Watch.edgeN (w : Watch) (e : End) : Int := if w.okP then w.level e - bothK (w.level e) w.told 3 else 0
theorem watchEdge_ok (w : Watch) (e : End) (hs : e.small) : Pure 25 [w.v, e.v] (.tup [(w.edgeW e).v, int (w.edgeN e)]) := by
  have hr := level_r w e
  refine fn_of_vc tab_ok mixed Try.call25 Try.func25 rfl [] _ _ (by kernel_rfl) rfl rfl rfl ?_
  repeat' ((conv => whnf); first
      | (refine goP (watchOk_ok w) ?_)
      | (refine goP (watchLevel_ok w e hs) ?_)
      | (split <;> rename_i hq <;> (try simp only [Bool.not_eq_eq_eq_not, Bool.not_true, Bool.not_false, decide_eq_true_eq, decide_eq_false_iff_not, inB_t, inB_f, bytes_len, List.length_map, Bool.and_eq_true, Bool.and_eq_false_iff, and_true] at hq) <;> (try (exfalso; first | omega | (simp_all; done))))
      | (refine goW (by first | omega | (simp; omega)) (by first | omega | (simp; omega)) ?_)
      | (refine ret1 (by rfl) (by rfl) (outB ?_); first | rfl | grind [Watch.level])
      | (refine ret1 (by rfl) (by rfl) (outI ?_); first | rfl | omega | grind [Watch.level])
      | (refine ret1 (by rfl) (by rfl) (outB ?_)) | (refine ret1 (by rfl) (by rfl) (outI ?_)))
  all_goals (conv => whnf)
  · have hn : ¬ w.okP := hq
    refine retG [] 0 (by rfl) (by rfl) (by rfl) (by rfl) (by rfl) (by rfl) ?_
    rw [Watch.edgeW, Watch.edgeN, if_neg hn, if_neg hn]; rfl
  · have hn : w.okP := hq
    have hw := hn.2.1
    refine ⟨[0, 1, 2, 3, 4, 5, 6, 7, 8, 9], [(1, [2]), (6, [2]), (8, [4])], (by kernel_rfl), ?_⟩
    (conv => whnf)
    repeat' ((conv => whnf); first
        | (refine goAndNot (by omega) (by omega) ?_)
        | (split <;> rename_i hq <;> (try simp only [Bool.not_eq_eq_eq_not, Bool.not_true, Bool.not_false, decide_eq_true_eq, decide_eq_false_iff_not, inB_t, inB_f, bytes_len, List.length_map, Bool.and_eq_true, Bool.and_eq_false_iff, and_true] at hq) <;> (try (exfalso; first | omega | (simp_all; done))))
        | (refine goW (by first | omega | (simp; omega)) (by first | omega | (simp; omega)) ?_)
        | (refine ret1 (by rfl) (by rfl) (outB ?_); first | rfl | grind [Watch.level])
        | (refine ret1 (by rfl) (by rfl) (outI ?_); first | rfl | omega | grind [Watch.level])
        | (refine ret1 (by rfl) (by rfl) (outB ?_)) | (refine ret1 (by rfl) (by rfl) (outI ?_)))
    all_goals (conv => whnf)
    refine retG [] 0 (by rfl) (by rfl) (by rfl) (by rfl) (by rfl) (by rfl) ?_
    rw [Watch.edgeW, Watch.edgeN, if_pos hn, if_pos hn]; rfl
theorem watchEdge_ok' (w : Watch) (e : End) (hs : e.small) : Pure 26 [w.v, e.v] (.tup [(w.edgeW e).v, int (w.edgeN e)]) := by
  have hr := level_r w e
  have hb := bothK_r (w.level e) w.told 3
  refine fn_of_vc tab_ok mixed Try.call26 Try.func26 rfl [] _ _ (by kernel_rfl) rfl rfl rfl ?_
  repeat' ((conv => whnf); first
      | (refine goP (watchOk_ok' w) ?_)
      | (refine goP (watchLevel_ok' w e hs) ?_)
      | (split <;> rename_i hq <;> (try simp only [Bool.not_eq_eq_eq_not, Bool.not_true, Bool.not_false, decide_eq_true_eq, decide_eq_false_iff_not, inB_t, inB_f, bytes_len, List.length_map, Bool.and_eq_true, Bool.and_eq_false_iff, and_true] at hq) <;> (try (exfalso; first | omega | (simp_all; done))))
      | (refine goW (by first | omega | (simp; omega)) (by first | omega | (simp; omega)) ?_)
      | (refine ret1 (by rfl) (by rfl) (outB ?_); first | rfl | grind [Watch.level])
      | (refine ret1 (by rfl) (by rfl) (outI ?_); first | rfl | omega | grind [Watch.level])
      | (refine ret1 (by rfl) (by rfl) (outB ?_)) | (refine ret1 (by rfl) (by rfl) (outI ?_)))
  all_goals (conv => whnf)
  · have hn : ¬ w.okP := hq
    refine retG [] 0 (by rfl) (by rfl) (by rfl) (by rfl) (by rfl) (by rfl) ?_
    rw [Watch.edgeW, Watch.edgeN, if_neg hn, if_neg hn]; rfl
  · have hn : w.okP := hq
    have hw := hn.2.1
    refine ⟨[0, 1, 2, 3, 4, 5, 6, 7, 8, 9, 10, 11], [(1, [2]), (7, [2]), (10, [4])], (by kernel_rfl), ?_⟩
    (conv => whnf)
    repeat' ((conv => whnf); first
        | (refine goP (both_ok _ _ (by omega) (by omega)) ?_)
        | (split <;> rename_i hq <;> (try simp only [Bool.not_eq_eq_eq_not, Bool.not_true, Bool.not_false, decide_eq_true_eq, decide_eq_false_iff_not, inB_t, inB_f, bytes_len, List.length_map, Bool.and_eq_true, Bool.and_eq_false_iff, and_true] at hq) <;> (try (exfalso; first | omega | (simp_all; done))))
        | (refine goW (by first | omega | (simp; omega)) (by first | omega | (simp; omega)) ?_)
        | (refine ret1 (by rfl) (by rfl) (outB ?_); first | rfl | grind [Watch.level])
        | (refine ret1 (by rfl) (by rfl) (outI ?_); first | rfl | omega | grind [Watch.level])
        | (refine ret1 (by rfl) (by rfl) (outB ?_)) | (refine ret1 (by rfl) (by rfl) (outI ?_)))
    all_goals (conv => whnf)
    refine retG [] 0 (by rfl) (by rfl) (by rfl) (by rfl) (by rfl) (by rfl) ?_
    rw [Watch.edgeW, Watch.edgeN, if_pos hn, if_pos hn]; rfl
end Go.Proofs.Ytpeejmolbmhjjaa.Sx
end

section
namespace Go.Proofs.Ytpeejmolbmhjjaa.Sx
set_option linter.unusedSimpArgs false
set_option linter.unusedVariables false
open Go
set_option maxRecDepth 100000
set_option maxHeartbeats 0
theorem odd_r {l : List Int} (hl : okB l) (p : Int) (hp : 0 ≤ p ∧ p < 900000000000) (n : Int) (hn : n ≤ 1000000000000 ∧ -1000000000000 ≤ n) : Reads 134 l p [int n] fun p' v => (p ≤ p' ∧ p' ≤ p + 1) ∧ ∃ b, v = bool b := by
  refine fn_of_vc tab_ok mixed Try.call134 Try.func134 rfl [(1000, rd l p)] _ _ (by kernel_rfl) rfl rfl rfl ?_
  repeat' ((conv => whnf); first
      | (refine goPick hl (by exact ⟨⟨rfl, rfl⟩, trivial⟩) (by omega) (by omega) fun i hi1 hi2 => ?_)
      | (refine retG [] 0 (by rfl) (by rfl) (by rfl) (by rfl) (by rfl) (by rfl) ⟨_, bool _, ⟨?_, _, rfl⟩, rfl⟩ <;> omega)
      | (split <;> rename_i hq <;> (try simp only [Bool.not_eq_eq_eq_not, Bool.not_true, Bool.not_false, decide_eq_true_eq, decide_eq_false_iff_not, inB_t, inB_f, bytes_len, List.length_map, Bool.and_eq_true, Bool.and_eq_false_iff, and_true] at hq) <;> (try (exfalso; first | omega | (simp_all; done))))
      | (refine goW (by first | omega | (simp; omega)) (by first | omega | (simp; omega)) ?_)
      | (refine ret1 (by rfl) (by rfl) (outB ?_); first | rfl | grind [inB])
      | (refine ret1 (by rfl) (by rfl) (outI ?_); first | rfl | omega | grind [inB])
      | (refine ret1 (by rfl) (by rfl) (outB ?_)) | (refine ret1 (by rfl) (by rfl) (outI ?_)))
theorem goOdd {b : Nat} {l : List Int} {p n : Int} {M : Nat → Option (List AV)} {ok : Nat → Bool} {K : List (Nat × List AV) → Out → Prop} (hl : okB l) (hm : memIs M ok [(b, rd l p)]) (hp : 0 ≤ p ∧ p < 900000000000) (hn : n ≤ 1000000000000 ∧ -1000000000000 ≤ n)
    (hk : ∀ p' x, p ≤ p' → p' ≤ p + 1 → K [(b, rd l p)] { mem := [rd l p'], res := .pv (bool x) }) :
    ∃ (m : List (Nat × List AV)) (R : Out → Prop), FnM Try.prog 134 m [(false, [.ptr b 0]), int n] R ∧ memIs M ok m ∧ ∀ o, R o → (o.tk.all fun x => Nat.ble 2 x.1 && Nat.blt x.1 9) = true → K m o :=
  goRd (odd_r hl p hp n hn) rfl (by rintro p' v ⟨_, x, rfl⟩; rfl) hm (by rintro p' v ⟨⟨h1, h2⟩, x, rfl⟩; exact hk p' x h1 h2)
theorem goBoth {a b : Int} {M : Nat → Option (List AV)} {ok : Nat → Bool} {K : List (Nat × List AV) → Out → Prop} (ha : 0 ≤ a ∧ a < 1000000000) (hb : 0 ≤ b ∧ b < 1000000000) (hk : ∀ r, 0 ≤ r → r ≤ 7 → K [] { res := .pv (int r) }) :
    ∃ (m : List (Nat × List AV)) (R : Out → Prop), FnM Try.prog 82 m [int a, int b] R ∧ memIs M ok m ∧ ∀ o, R o → (o.tk.all fun x => Nat.ble 2 x.1 && Nat.blt x.1 9) = true → K m o :=
  goP (both_ok a b ha hb) (hk _ (bothK_r a b 3).1 (bothK_r a b 3).2)
theorem watch_r {l : List Int} (hl : okB l) (p : Int) (hp : 0 ≤ p ∧ p < 800000000000) (n : Int) (hn : n ≤ 1000000000000 ∧ -1000000000000 ≤ n) : Reads 79 l p [int n] fun p' v => (p ≤ p' ∧ p' ≤ p + 4) ∧ ∃ w : Watch, ((0 ≤ w.asks ∧ w.asks ≤ 7) ∧ (-1 ≤ w.told ∧ w.told ≤ 9)) ∧ v = w.v := by
  refine fn_of_vc tab_ok mixed Try.call79 Try.func79 rfl [(1000, rd l p)] _ _ (by kernel_rfl) rfl rfl rfl ?_
  repeat' ((conv => whnf); first
      | (refine goPick hl (by exact ⟨⟨rfl, rfl⟩, trivial⟩) (by omega) (by omega) fun i hi1 hi2 => ?_)
      | (split <;> rename_i hq <;> (try simp only [Bool.not_eq_eq_eq_not, Bool.not_true, Bool.not_false, decide_eq_true_eq, decide_eq_false_iff_not, inB_t, inB_f, bytes_len, List.length_map, Bool.and_eq_true, Bool.and_eq_false_iff, and_true] at hq) <;> (try (exfalso; first | omega | (simp_all; done))))
      | (refine goW (by first | omega | (simp; omega)) (by first | omega | (simp; omega)) ?_)
      | (refine ret1 (by rfl) (by rfl) (outB ?_); first | rfl | grind [inB])
      | (refine ret1 (by rfl) (by rfl) (outI ?_); first | rfl | omega | grind [inB])
      | (refine ret1 (by rfl) (by rfl) (outB ?_)) | (refine ret1 (by rfl) (by rfl) (outI ?_)))
  (conv => whnf)
  refine ⟨[0, 1, 2, 3, 4, 5, 6], [(1, [5]), (3, [1000]), (6, [5])], (by kernel_rfl), ?_⟩
  (conv => whnf)
  repeat' ((conv => whnf); first
      | (refine goPick hl (by exact ⟨⟨rfl, rfl⟩, trivial⟩) (by omega) (by omega) fun i hi1 hi2 => ?_)
      | (refine goBoth (by omega) (by omega) fun r hr1 hr2 => ?_)
      | (refine goOdd hl (by exact ⟨⟨rfl, rfl⟩, trivial⟩) (by omega) (by omega) fun p' x hx1 hx2 => ?_)
      | (split <;> rename_i hq <;> (try simp only [Bool.not_eq_eq_eq_not, Bool.not_true, Bool.not_false, decide_eq_true_eq, decide_eq_false_iff_not, inB_t, inB_f, bytes_len, List.length_map, Bool.and_eq_true, Bool.and_eq_false_iff, and_true] at hq) <;> (try (exfalso; first | omega | (simp_all; done))))
      | (refine goW (by first | omega | (simp; omega)) (by first | omega | (simp; omega)) ?_)
      | (refine ret1 (by rfl) (by rfl) (outB ?_); first | rfl | grind [inB])
      | (refine ret1 (by rfl) (by rfl) (outI ?_); first | rfl | omega | grind [inB])
      | (refine ret1 (by rfl) (by rfl) (outB ?_)) | (refine ret1 (by rfl) (by rfl) (outI ?_)))
  all_goals (conv => whnf)
  all_goals refine retG [] 0 (by rfl) (by rfl) (by rfl) (by rfl) (by rfl) (by rfl) ⟨_, _, ⟨⟨?_, ?_⟩, ⟨_, _⟩, ⟨⟨?_, ?_⟩, ?_, ?_⟩, rfl⟩, rfl⟩ <;> (try dsimp only) <;> omega
end Go.Proofs.Ytpeejmolbmhjjaa.Sx
end

section
namespace Go.Proofs.Ytpeejmolbmhjjaa.Sx
set_option linter.unusedSimpArgs false
set_option linter.unusedVariables false
open Go
set_option maxRecDepth 100000
set_option maxHeartbeats 0
/-- The first k elements copied, the others zero. -/
def mix (z : List AV) (n : Nat) (es : List (List AV)) (k : Nat) : List AV := (es.take k).flatten ++ rep0 z (n - k)
theorem rep0_len2 (z : List AV) : ∀ n, (rep0 z n).length = n * z.length
  | 0 => by simp [rep0]
  | n + 1 => by simp [rep0, rep0_len2 z n, Nat.add_mul]; omega
theorem rep0_mem {z : List AV} {x : AV} : ∀ {n}, x ∈ rep0 z n → x ∈ z
  | 0, h => by simp [rep0] at h
  | n + 1, h => by
    simp only [rep0, List.mem_append] at h
    exact h.elim id rep0_mem
theorem flat_len2 {sz : Nat} : ∀ {es : List (List AV)}, (∀ xs ∈ es, xs.length = sz) → es.flatten.length = es.length * sz
  | [], _ => by simp
  | xs :: es, h => by
    have h1 := h xs (by simp)
    have h2 := @flat_len2 sz es fun ys hy => h ys (by simp [hy])
    simp only [List.flatten_cons, List.length_append, List.length_cons, h1, h2, Nat.add_mul]; omega
theorem mix_len {z : List AV} {n : Nat} {es : List (List AV)} {k : Nat} (hz : ∀ xs ∈ es, xs.length = z.length) (hn : es.length = n) (hk : k ≤ n) : (mix z n es k).length = n * z.length := by
  unfold mix
  rw [List.length_append, flat_len2 fun xs hx => hz xs (List.mem_of_mem_take hx), rep0_len2, List.length_take, ← Nat.add_mul]
  congr 1; omega
theorem mix_zero (z : List AV) (n : Nat) (es : List (List AV)) : mix z n es 0 = rep0 z n := by simp [mix]
theorem mix_all {z : List AV} {n : Nat} {es : List (List AV)} (hn : es.length = n) : mix z n es n = es.flatten := by
  subst hn; simp [mix, rep0]
theorem mix_mem {z : List AV} {n : Nat} {es : List (List AV)} {k : Nat} {p : AV → Prop} (h1 : ∀ xs ∈ es, ∀ x ∈ xs, p x) (h2 : ∀ x ∈ z, p x) : ∀ x ∈ mix z n es k, p x := by
  intro x hx
  simp only [mix, List.mem_append, List.mem_flatten] at hx
  rcases hx with ⟨xs, h3, h4⟩ | hx
  · exact h1 xs (List.mem_of_mem_take h3) x h4
  · exact h2 x (rep0_mem hx)
theorem mix_lay {z : List AV} {n : Nat} {es : List (List AV)} {k : Nat} {xs : List AV} (hz : ∀ xs ∈ es, xs.length = z.length) (hn : es.length = n) (hk : es[k]? = some xs) : lay (mix z n es k) (k * z.length) xs = mix z n es (k + 1) := by
  have hkl : k < es.length := (List.getElem?_eq_some_iff.1 hk).1
  have hxl : xs.length = z.length := hz xs (List.mem_of_getElem? hk)
  have hfl : (es.take k).flatten.length = k * z.length := by
    rw [flat_len2 fun xs hx => hz xs (List.mem_of_mem_take hx), List.length_take]; congr 1; omega
  unfold lay mix
  rw [List.take_left' hfl, ← List.drop_drop, List.drop_left' hfl, hxl, List.take_add_one, hk]
  rw [show n - k = (n - (k + 1)) + 1 by omega]
  simp [rep0, List.drop_left']
theorem alignL_self : ∀ {xs : List AV}, (∀ x ∈ xs, x.strip = x) → alignL xs xs = xs
  | [], _ => rfl
  | x :: xs, h => by
    simp only [alignL]
    rw [alignL_self fun y hy => h y (by simp [hy])]
    congr 1
    unfold alignA
    split
    · exact h _ (by simp)
    · rfl
theorem chunks_flatten {sz : Nat} : ∀ {es : List (List AV)}, (∀ xs ∈ es, xs.length = sz) → chunks sz es.length es.flatten = es
  | [], _ => rfl
  | xs :: es, h => by
    have hx := h xs (by simp)
    simp only [List.length_cons, chunks, List.flatten_cons]
    rw [List.take_left' hx, List.drop_left' hx, chunks_flatten fun ys hy => h ys (by simp [hy])]
theorem stripV_self {xs : List AV} (h : ∀ x ∈ xs, x.strip = x) : stripV xs = xs := by
  unfold stripV
  exact (List.map_congr_left h).trans (List.map_id _)
theorem goIf {c : Bool} {A : Prop} (hc : c = true) (h : A) : bif c then A else False := by rw [hc]; exact h
/-- An element without lists. -/
def flat (xs : List AV) : Prop := ∀ x ∈ xs, x.strip = x ∧ x.clean = true ∧ ∀ ub ut, patA ub ut x = true
theorem mix_pat {z : List AV} {n : Nat} {es : List (List AV)} {k : Nat} {ub ut : List Nat} (h1 : ∀ xs ∈ es, flat xs) (h2 : flat z) : (mix z n es k).all (patA ub ut) = true :=
  List.all_eq_true.2 (mix_mem (fun xs hx x hy => (h1 xs hx x hy).2.2 _ _) fun x hx => (h2 x hx).2.2 _ _)
theorem mix_align {z : List AV} {n : Nat} {es : List (List AV)} {k : Nat} (h1 : ∀ xs ∈ es, flat xs) (h2 : flat z) : alignL (mix z n es k) (mix z n es k) = mix z n es k :=
  alignL_self (mix_mem (fun xs hx x hy => (h1 xs hx x hy).1) fun x hx => (h2 x hx).1)
theorem goSt {off m : Nat} {cs ps : List AV} {A : Prop} (h : off + m ≤ cs.length) (hA : A) : bif Nat.ble (off + m) cs.length then A else False := by
  rw [show Nat.ble (off + m) cs.length = true from Nat.ble_eq_true_of_le h]; exact hA
theorem pat_row {ks : List Nat} {s : St} {b : Nat} {cs : List AV} (hm : s.mem = [(b, cs)]) (hcs : cs.all (patA s.ub s.ut) = true) (h : (({ s with mem := [] } : St).pat ks && s.ub.any fun j => Nat.beq b j) = true) : s.pat ks = true := by
  simp only [St.pat, Bool.and_eq_true] at h ⊢
  obtain ⟨⟨⟨⟨⟨⟨⟨h1, h2⟩, h3⟩, h4⟩, h5⟩, h6⟩, h8⟩, h7⟩ := h
  refine ⟨⟨⟨⟨⟨⟨h1, ?_⟩, h3⟩, h4⟩, h5⟩, h6⟩, h8⟩
  rw [hm]
  simp only [List.all_cons, List.all_nil, Bool.and_true, Bool.and_eq_true]
  exact ⟨hcs, h7⟩
theorem bytes_flat {l : List Int} : ∀ xs ∈ bytes l, xs.length = 1 ∧ flat xs := by
  intro xs hx
  simp only [bytes, List.mem_map] at hx
  obtain ⟨n, _, rfl⟩ := hx
  refine ⟨rfl, fun x hx => ?_⟩
  simp only [List.mem_singleton] at hx
  subst hx
  exact ⟨rfl, rfl, fun _ _ => rfl⟩
theorem bytes_get2 {l : List Int} {k : Nat} (h : k < (bytes l).length) : (bytes l)[k]? = some [.i .u8 (l.getD k 0)] := by
  have h : k < l.length := by simpa using h
  simp [bytes, List.getElem?_map, List.getD, List.getElem?_eq_getElem h]
theorem toByteS_ok (l : List Int) (hl : l.length ≤ 1100000) : Pure 131 [(false, [.lst 0 0 5 (bytes l)])] (.pv (false, [.lst 0 0 5 (bytes l)])) := by
  have hb1 : ∀ xs ∈ bytes l, xs.length = [AV.i .u8 0].length := fun xs hx => (bytes_flat xs hx).1
  have hb2 : ∀ xs ∈ bytes l, flat xs := fun xs hx => (bytes_flat xs hx).2
  have hz : flat [AV.i .u8 0] := by intro x hx; simp only [List.mem_singleton] at hx; subst hx; exact ⟨rfl, rfl, fun _ _ => rfl⟩
  have hbl : (bytes l).length = l.length := bytes_len l
  refine fn_of_vc tab_ok mixed Try.call131 Try.func131 rfl [] _ _ (by kernel_rfl) rfl rfl rfl ?_
  (conv => whnf)
  refine ⟨rfl, ?_, ?_, ?_, ?_⟩
  · omega
  · show ((bytes l).length : Int) * 1 ≤ _; omega
  · show ((bytes l).length : Int) ≤ _; omega
  (conv => whnf)
  rw [forceL_eq]
  (conv => whnf)
  refine ⟨Nat, fun x => x ≤ l.length, fun x => ⟨[(0, .one (.lst 0 0 5 (bytes l))), (3, .one (.row 7 (bytes l).length 5)), (4, .one (.i .i64 x))], [(7, mix [.i .u8 0] (bytes l).length (bytes l) x)], [(1, 0)], [7], [1]⟩, fun x => l.length - x, 0, fun x => ?_, ?_, ⟨(by repeat' (first | exact trivial | refine ⟨rfl, ?_⟩)), ⟨?_, (by repeat' (first | exact trivial | refine ⟨rfl, ?_⟩))⟩, (by repeat' (first | exact trivial | refine ⟨rfl, ?_⟩))⟩, ?_⟩
  · exact pat_row rfl (mix_pat hb2 hz) rfl
  · show 0 ≤ l.length; omega
  · show alignL (rep0 [.i .u8 0] (bytes l).length) _ = _
    rw [← mix_zero _ _ (bytes l)]; exact mix_align hb2 hz
  rintro k hk
  (conv => whnf); split <;> rename_i h4 <;> simp only [decide_eq_true_eq, decide_eq_false_iff_not] at h4
  case h_2 =>
    (conv => whnf)
    have hke : k = (bytes l).length := by omega
    subst hke
    refine retRow (by rfl) (by rfl) (by rfl) (by rfl) (by rfl) (by rfl) ?_ ?_ ?_
    · exact mix_len hb1 rfl (Nat.le_refl _)
    · rw [stripV_self (mix_mem (fun xs hx x hy => (hb2 xs hx x hy).1) fun x hx => (hz x hx).1)]
      exact mix_mem (fun xs hx x hy => (hb2 xs hx x hy).2.1) fun x hx => (hz x hx).2.1
    · show _ = _
      rw [stripV_self (mix_mem (fun xs hx x hy => (hb2 xs hx x hy).1) fun x hx => (hz x hx).1), mix_all rfl]
      show ({ res := .pv (false, [.lst 0 0 5 (chunks 1 (bytes l).length (bytes l).flatten)]) } : Out) = _
      have h := chunks_flatten hb1; simp only [List.length_cons, List.length_nil] at h; rw [h]
  have hlt : k < (bytes l).length := by omega
  (conv => whnf)
  refine goIdx [.i .u8 (l.getD k 0)] (by omega) rfl (by simpa using bytes_get2 hlt) ?_
  (conv => whnf)
  refine ⟨⟨by omega, by omega⟩, ?_⟩
  (conv => whnf)
  refine goIf ?_ ?_
  · show (true && Nat.ble (k * 1 + 1) (mix [.i .u8 0] (bytes l).length (bytes l) k).length && true) = true
    rw [mix_len hb1 rfl (by omega)]; simp; omega
  (conv => whnf)
  rw [forceL_eq]
  (conv => whnf)
  refine goW (by omega) (by omega) ?_
  (conv => whnf)
  refine ⟨k + 1, ?_, ⟨(by repeat' (first | exact trivial | refine ⟨rfl, ?_⟩)), ⟨?_, (by repeat' (first | exact trivial | refine ⟨rfl, ?_⟩))⟩, (by repeat' (first | exact trivial | refine ⟨rfl, ?_⟩))⟩, ?_⟩
  · show k + 1 ≤ l.length; omega
  · show alignL (lay (mix [.i .u8 0] (bytes l).length (bytes l) k) (k * 1) [.i .u8 (l.getD k 0)]) _ = _
    rw [show lay (mix [.i .u8 0] (bytes l).length (bytes l) k) (k * 1) [.i .u8 (l.getD k 0)] = _ from mix_lay hb1 rfl (bytes_get2 hlt)]; exact mix_align hb2 hz
  · show l.length - (k + 1) < l.length - k; omega
theorem toRange_ok (r : Rng) : Pure 162 [r.v] (.pv r.v) := by
  refine fn_of_vc tab_ok mixed Try.call162 Try.func162 rfl [] _ _ (by kernel_rfl) rfl rfl rfl ?_
  (conv => whnf); exact ret1 (by rfl) (by rfl) (by rfl)
theorem toEarly_ok (r : Early) : Pure 183 [r.v] (.pv r.v) := by
  refine fn_of_vc tab_ok mixed Try.call183 Try.func183 rfl [] _ _ (by kernel_rfl) rfl rfl rfl ?_
  (conv => whnf); exact ret1 (by rfl) (by rfl) (by rfl)
theorem toRangeS_ok (l : List Rng) (hl : l.length ≤ 1100000) : Pure 132 [(false, [.lst 0 0 189 (l.map Rng.c)])] (.pv (false, [.lst 0 0 108 (l.map Rng.c)])) := by
  have hb : ∀ xs ∈ l.map Rng.c, xs.length = [AV.i .i64 0, .i .i64 0].length ∧ flat xs := by
    intro xs hx
    obtain ⟨r, _, rfl⟩ := List.mem_map.1 hx
    refine ⟨rfl, fun x hx => ?_⟩
    simp only [Rng.c, List.mem_cons, List.not_mem_nil, or_false] at hx
    rcases hx with rfl | rfl <;> exact ⟨rfl, rfl, fun _ _ => rfl⟩
  have hb1 : ∀ xs ∈ l.map Rng.c, xs.length = [AV.i .i64 0, .i .i64 0].length := fun xs hx => (hb xs hx).1
  have hb2 : ∀ xs ∈ l.map Rng.c, flat xs := fun xs hx => (hb xs hx).2
  have hz : flat [AV.i .i64 0, .i .i64 0] := by
    intro x hx
    simp only [List.mem_cons, List.not_mem_nil, or_false] at hx
    rcases hx with rfl | rfl <;> exact ⟨rfl, rfl, fun _ _ => rfl⟩
  have hbl : (l.map Rng.c).length = l.length := by simp
  have get : ∀ k, k < (l.map Rng.c).length → ∃ r : Rng, (l.map Rng.c)[k]? = some r.c := fun k hk => by
    have hk : k < l.length := by simpa using hk
    exact ⟨l[k], by simp [List.getElem?_map, List.getElem?_eq_getElem hk]⟩
  refine fn_of_vc tab_ok mixed Try.call132 Try.func132 rfl [] _ _ (by kernel_rfl) rfl rfl rfl ?_
  (conv => whnf)
  refine ⟨rfl, ?_, ?_, ?_, ?_⟩
  · omega
  · show ((l.map Rng.c).length : Int) * 16 ≤ _; omega
  · show ((l.map Rng.c).length : Int) ≤ _; omega
  (conv => whnf)
  rw [forceL_eq]
  (conv => whnf)
  refine ⟨Nat, fun x => x ≤ l.length, fun x => ⟨[(0, .one (.lst 0 0 189 (l.map Rng.c))), (3, .one (.row 7 (l.map Rng.c).length 108)), (4, .one (.i .i64 x))], [(7, mix [AV.i .i64 0, .i .i64 0] (l.map Rng.c).length (l.map Rng.c) x)], [(1, 0)], [7], [1]⟩, fun x => l.length - x, 0, fun x => ?_, ?_, ⟨(by repeat' (first | exact trivial | refine ⟨rfl, ?_⟩)), ⟨?_, (by repeat' (first | exact trivial | refine ⟨rfl, ?_⟩))⟩, (by repeat' (first | exact trivial | refine ⟨rfl, ?_⟩))⟩, ?_⟩
  · exact pat_row rfl (mix_pat hb2 hz) rfl
  · show 0 ≤ l.length; omega
  · show alignL (rep0 [AV.i .i64 0, .i .i64 0] (l.map Rng.c).length) _ = _
    rw [← mix_zero _ _ (l.map Rng.c)]; exact mix_align hb2 hz
  rintro k hk
  (conv => whnf); split <;> rename_i h4 <;> simp only [decide_eq_true_eq, decide_eq_false_iff_not] at h4
  case h_2 =>
    (conv => whnf)
    have hke : k = (l.map Rng.c).length := by omega
    subst hke
    refine retRow (by rfl) (by rfl) (by rfl) (by rfl) (by rfl) (by rfl) ?_ ?_ ?_
    · exact mix_len hb1 rfl (Nat.le_refl _)
    · rw [stripV_self (mix_mem (fun xs hx x hy => (hb2 xs hx x hy).1) fun x hx => (hz x hx).1)]
      exact mix_mem (fun xs hx x hy => (hb2 xs hx x hy).2.1) fun x hx => (hz x hx).2.1
    · show _ = _
      rw [stripV_self (mix_mem (fun xs hx x hy => (hb2 xs hx x hy).1) fun x hx => (hz x hx).1), mix_all rfl]
      show ({ res := .pv (false, [.lst 0 0 108 (chunks 2 (l.map Rng.c).length (l.map Rng.c).flatten)]) } : Out) = _
      have h := chunks_flatten hb1; simp only [List.length_cons, List.length_nil] at h; rw [h]
  have hlt : k < (l.map Rng.c).length := by omega
  obtain ⟨r, hr⟩ := get k hlt
  (conv => whnf)
  refine goIdx r.c (by omega) rfl (by simpa using hr) ?_
  (conv => whnf); refine goP (toRange_ok r) ?_
  (conv => whnf)
  refine ⟨⟨by omega, by omega⟩, ?_⟩
  (conv => whnf)
  refine goIf ?_ ?_
  · show (true && Nat.ble (k * 2 + 2) (mix [AV.i .i64 0, .i .i64 0] (l.map Rng.c).length (l.map Rng.c) k).length && true) = true
    rw [mix_len hb1 rfl (by omega)]; simp; omega
  (conv => whnf)
  rw [forceL_eq]
  (conv => whnf)
  refine goW (by omega) (by omega) ?_
  (conv => whnf)
  refine ⟨k + 1, ?_, ⟨(by repeat' (first | exact trivial | refine ⟨rfl, ?_⟩)), ⟨?_, (by repeat' (first | exact trivial | refine ⟨rfl, ?_⟩))⟩, (by repeat' (first | exact trivial | refine ⟨rfl, ?_⟩))⟩, ?_⟩
  · show k + 1 ≤ l.length; omega
  · show alignL (lay (mix [AV.i .i64 0, .i .i64 0] (l.map Rng.c).length (l.map Rng.c) k) (k * 2) r.c) _ = _
    rw [show lay (mix [AV.i .i64 0, .i .i64 0] (l.map Rng.c).length (l.map Rng.c) k) (k * 2) r.c = _ from mix_lay hb1 rfl hr]; exact mix_align hb2 hz
  · show l.length - (k + 1) < l.length - k; omega
theorem toEarlyS_ok (l : List Early) (hl : l.length ≤ 1100000) : Pure 151 [(false, [.lst 0 0 206 (l.map Early.c)])] (.pv (false, [.lst 0 0 138 (l.map Early.c)])) := by
  have hb : ∀ xs ∈ l.map Early.c, xs.length = [AV.i .i64 0, .i .u8 0].length ∧ flat xs := by
    intro xs hx
    obtain ⟨r, _, rfl⟩ := List.mem_map.1 hx
    refine ⟨rfl, fun x hx => ?_⟩
    simp only [Early.c, List.mem_cons, List.not_mem_nil, or_false] at hx
    rcases hx with rfl | rfl <;> exact ⟨rfl, rfl, fun _ _ => rfl⟩
  have hb1 : ∀ xs ∈ l.map Early.c, xs.length = [AV.i .i64 0, .i .u8 0].length := fun xs hx => (hb xs hx).1
  have hb2 : ∀ xs ∈ l.map Early.c, flat xs := fun xs hx => (hb xs hx).2
  have hz : flat [AV.i .i64 0, .i .u8 0] := by
    intro x hx
    simp only [List.mem_cons, List.not_mem_nil, or_false] at hx
    rcases hx with rfl | rfl <;> exact ⟨rfl, rfl, fun _ _ => rfl⟩
  have hbl : (l.map Early.c).length = l.length := by simp
  have get : ∀ k, k < (l.map Early.c).length → ∃ r : Early, (l.map Early.c)[k]? = some r.c := fun k hk => by
    have hk : k < l.length := by simpa using hk
    exact ⟨l[k], by simp [List.getElem?_map, List.getElem?_eq_getElem hk]⟩
  refine fn_of_vc tab_ok mixed Try.call151 Try.func151 rfl [] _ _ (by kernel_rfl) rfl rfl rfl ?_
  (conv => whnf)
  refine ⟨rfl, ?_, ?_, ?_, ?_⟩
  · omega
  · show ((l.map Early.c).length : Int) * 16 ≤ _; omega
  · show ((l.map Early.c).length : Int) ≤ _; omega
  (conv => whnf)
  rw [forceL_eq]
  (conv => whnf)
  refine ⟨Nat, fun x => x ≤ l.length, fun x => ⟨[(0, .one (.lst 0 0 206 (l.map Early.c))), (3, .one (.row 7 (l.map Early.c).length 138)), (4, .one (.i .i64 x))], [(7, mix [AV.i .i64 0, .i .u8 0] (l.map Early.c).length (l.map Early.c) x)], [(1, 0)], [7], [1]⟩, fun x => l.length - x, 0, fun x => ?_, ?_, ⟨(by repeat' (first | exact trivial | refine ⟨rfl, ?_⟩)), ⟨?_, (by repeat' (first | exact trivial | refine ⟨rfl, ?_⟩))⟩, (by repeat' (first | exact trivial | refine ⟨rfl, ?_⟩))⟩, ?_⟩
  · exact pat_row rfl (mix_pat hb2 hz) rfl
  · show 0 ≤ l.length; omega
  · show alignL (rep0 [AV.i .i64 0, .i .u8 0] (l.map Early.c).length) _ = _
    rw [← mix_zero _ _ (l.map Early.c)]; exact mix_align hb2 hz
  rintro k hk
  (conv => whnf); split <;> rename_i h4 <;> simp only [decide_eq_true_eq, decide_eq_false_iff_not] at h4
  case h_2 =>
    (conv => whnf)
    have hke : k = (l.map Early.c).length := by omega
    subst hke
    refine retRow (by rfl) (by rfl) (by rfl) (by rfl) (by rfl) (by rfl) ?_ ?_ ?_
    · exact mix_len hb1 rfl (Nat.le_refl _)
    · rw [stripV_self (mix_mem (fun xs hx x hy => (hb2 xs hx x hy).1) fun x hx => (hz x hx).1)]
      exact mix_mem (fun xs hx x hy => (hb2 xs hx x hy).2.1) fun x hx => (hz x hx).2.1
    · show _ = _
      rw [stripV_self (mix_mem (fun xs hx x hy => (hb2 xs hx x hy).1) fun x hx => (hz x hx).1), mix_all rfl]
      show ({ res := .pv (false, [.lst 0 0 138 (chunks 2 (l.map Early.c).length (l.map Early.c).flatten)]) } : Out) = _
      have h := chunks_flatten hb1; simp only [List.length_cons, List.length_nil] at h; rw [h]
  have hlt : k < (l.map Early.c).length := by omega
  obtain ⟨r, hr⟩ := get k hlt
  (conv => whnf)
  refine goIdx r.c (by omega) rfl (by simpa using hr) ?_
  (conv => whnf); refine goP (toEarly_ok r) ?_
  (conv => whnf)
  refine ⟨⟨by omega, by omega⟩, ?_⟩
  (conv => whnf)
  refine goIf ?_ ?_
  · show (true && Nat.ble (k * 2 + 2) (mix [AV.i .i64 0, .i .u8 0] (l.map Early.c).length (l.map Early.c) k).length && true) = true
    rw [mix_len hb1 rfl (by omega)]; simp; omega
  (conv => whnf)
  rw [forceL_eq]
  (conv => whnf)
  refine goW (by omega) (by omega) ?_
  (conv => whnf)
  refine ⟨k + 1, ?_, ⟨(by repeat' (first | exact trivial | refine ⟨rfl, ?_⟩)), ⟨?_, (by repeat' (first | exact trivial | refine ⟨rfl, ?_⟩))⟩, (by repeat' (first | exact trivial | refine ⟨rfl, ?_⟩))⟩, ?_⟩
  · show k + 1 ≤ l.length; omega
  · show alignL (lay (mix [AV.i .i64 0, .i .u8 0] (l.map Early.c).length (l.map Early.c) k) (k * 2) r.c) _ = _
    rw [show lay (mix [AV.i .i64 0, .i .u8 0] (l.map Early.c).length (l.map Early.c) k) (k * 2) r.c = _ from mix_lay hb1 rfl hr]; exact mix_align hb2 hz
  · show l.length - (k + 1) < l.length - k; omega
/-- The cells of the laws' own mouths, ears and ends. -/
def Mouth.cL (e : Mouth) : List AV := [.i .i64 e.heard, .lst 0 0 5 (bytes e.keep), .i .i64 e.sent, .i .i64 e.room, .lst 0 0 189 (e.early.map Rng.c)]
def Ear.cL (e : Ear) : List AV := [.i .i64 e.next, .i .i64 e.room, .lst 0 0 5 (bytes e.got), .lst 0 0 206 (e.far.map Early.c)]
def End.cL (e : End) : List AV := [.i .i64 e.state, .i .i64 e.addr, .i .i64 e.n, .i .i64 e.peerAddr, .i .i64 e.peerN, .i .i64 e.base,
  .i .i64 e.out.heard, .lst 0 0 5 (bytes e.out.keep), .i .i64 e.out.sent, .i .i64 e.out.room, .lst 0 0 189 (e.out.early.map Rng.c),
  .i .i64 e.inn.next, .i .i64 e.inn.room, .lst 0 0 5 (bytes e.inn.got), .lst 0 0 206 (e.inn.far.map Early.c),
  .b e.closed, .b e.lastTold, .b e.lastHeard, .i .i64 e.peerLast, .i .i64 e.due, .i .i64 e.tries, .i .i64 e.pulse.mean, .i .i64 e.pulse.far, .i .i64 e.pulse.wait]
theorem toMouth_ok (e : Mouth) (h1 : e.keep.length ≤ 1100000) (h2 : e.early.length ≤ 1100000) : Pure 72 [(true, e.cL)] (.pv e.v) := by
  refine fn_of_vc tab_ok mixed Try.call72 Try.func72 rfl [] _ _ (by kernel_rfl) rfl rfl rfl ?_
  (conv => whnf); refine goP (toByteS_ok e.keep h1) ?_
  (conv => whnf); refine goP (toRangeS_ok e.early h2) ?_
  (conv => whnf); exact ret1 (by rfl) (by rfl) (by rfl)
theorem toEar_ok (e : Ear) (h1 : e.got.length ≤ 1100000) (h2 : e.far.length ≤ 1100000) : Pure 113 [(true, e.cL)] (.pv e.v) := by
  refine fn_of_vc tab_ok mixed Try.call113 Try.func113 rfl [] _ _ (by kernel_rfl) rfl rfl rfl ?_
  (conv => whnf); refine goP (toByteS_ok e.got h1) ?_
  (conv => whnf); refine goP (toEarlyS_ok e.far h2) ?_
  (conv => whnf); exact ret1 (by rfl) (by rfl) (by rfl)
theorem toClock_ok (c : Clock) : Pure 114 [c.v] (.pv c.v) := by
  refine fn_of_vc tab_ok mixed Try.call114 Try.func114 rfl [] _ _ (by kernel_rfl) rfl rfl rfl ?_
  (conv => whnf); exact ret1 (by rfl) (by rfl) (by rfl)
theorem toEnd_ok (e : End) (hs : e.small) : Pure 43 [(true, e.cL)] (.pv e.v) := by
  obtain ⟨h1, h2, h3, h4⟩ := hs
  refine fn_of_vc tab_ok mixed Try.call43 Try.func43 rfl [] _ _ (by kernel_rfl) rfl rfl rfl ?_
  (conv => whnf); refine goP (toMouth_ok e.out (by omega) (by omega)) ?_
  (conv => whnf); refine goP (toEar_ok e.inn (by omega) (by omega)) ?_
  (conv => whnf); refine goP (toClock_ok e.pulse) ?_
  (conv => whnf); exact ret1 (by rfl) (by rfl) (by rfl)
end Go.Proofs.Ytpeejmolbmhjjaa.Sx
end

section
namespace Go.Proofs.Ytpeejmolbmhjjaa.Sx
set_option linter.unusedSimpArgs false
set_option linter.unusedVariables false
open Go
set_option maxRecDepth 100000
set_option maxHeartbeats 0
def szT (left : Int) (n : Nat) : Int := if left < n then -1 else left - n
theorem szByteS_ok (l : List Int) (left : Int) (h0 : 0 ≤ left ∧ left ≤ 1048576) (hl : l.length ≤ 9223372036854775807) : Pure 129 [(false, [.lst 0 0 5 (bytes l)]), int left] (.pv (int (szT left l.length))) := by
  refine fn_of_vc tab_ok mixed Try.call129 Try.func129 rfl [] _ _ (by kernel_rfl) rfl rfl rfl ?_
  repeat' ((conv => whnf); first
      | (fail)
      | (split <;> rename_i hq <;> (try simp only [Bool.not_eq_eq_eq_not, Bool.not_true, Bool.not_false, decide_eq_true_eq, decide_eq_false_iff_not, inB_t, inB_f, bytes_len, List.length_map, Bool.and_eq_true, Bool.and_eq_false_iff, and_true] at hq) <;> (try (exfalso; first | omega | (simp_all; done))))
      | (refine goW (by first | omega | (simp; omega)) (by first | omega | (simp; omega)) ?_)
      | (refine ret1 (by rfl) (by rfl) (outB ?_); first | rfl | grind [szT, bytes_len])
      | (refine ret1 (by rfl) (by rfl) (outI ?_); first | rfl | omega | grind [szT, bytes_len])
      | (refine ret1 (by rfl) (by rfl) (outB ?_)) | (refine ret1 (by rfl) (by rfl) (outI ?_)))
theorem szRangeS_ok (l : List Rng) (left : Int) (h0 : 0 ≤ left ∧ left ≤ 1048576) (hl : l.length ≤ 9223372036854775807) : Pure 130 [(false, [.lst 0 0 189 (l.map Rng.c)]), int left] (.pv (int (szT left l.length))) := by
  refine fn_of_vc tab_ok mixed Try.call130 Try.func130 rfl [] _ _ (by kernel_rfl) rfl rfl rfl ?_
  repeat' ((conv => whnf); first
      | (fail)
      | (split <;> rename_i hq <;> (try simp only [Bool.not_eq_eq_eq_not, Bool.not_true, Bool.not_false, decide_eq_true_eq, decide_eq_false_iff_not, inB_t, inB_f, bytes_len, List.length_map, Bool.and_eq_true, Bool.and_eq_false_iff, and_true] at hq) <;> (try (exfalso; first | omega | (simp_all; done))))
      | (refine goW (by first | omega | (simp; omega)) (by first | omega | (simp; omega)) ?_)
      | (refine ret1 (by rfl) (by rfl) (outB ?_); first | rfl | grind [szT])
      | (refine ret1 (by rfl) (by rfl) (outI ?_); first | rfl | omega | grind [szT])
      | (refine ret1 (by rfl) (by rfl) (outB ?_)) | (refine ret1 (by rfl) (by rfl) (outI ?_)))
theorem szEarlyS_ok (l : List Early) (left : Int) (h0 : 0 ≤ left ∧ left ≤ 1048576) (hl : l.length ≤ 9223372036854775807) : Pure 150 [(false, [.lst 0 0 206 (l.map Early.c)]), int left] (.pv (int (szT left l.length))) := by
  refine fn_of_vc tab_ok mixed Try.call150 Try.func150 rfl [] _ _ (by kernel_rfl) rfl rfl rfl ?_
  repeat' ((conv => whnf); first
      | (fail)
      | (split <;> rename_i hq <;> (try simp only [Bool.not_eq_eq_eq_not, Bool.not_true, Bool.not_false, decide_eq_true_eq, decide_eq_false_iff_not, inB_t, inB_f, bytes_len, List.length_map, Bool.and_eq_true, Bool.and_eq_false_iff, and_true] at hq) <;> (try (exfalso; first | omega | (simp_all; done))))
      | (refine goW (by first | omega | (simp; omega)) (by first | omega | (simp; omega)) ?_)
      | (refine ret1 (by rfl) (by rfl) (outB ?_); first | rfl | grind [szT])
      | (refine ret1 (by rfl) (by rfl) (outI ?_); first | rfl | omega | grind [szT])
      | (refine ret1 (by rfl) (by rfl) (outB ?_)) | (refine ret1 (by rfl) (by rfl) (outI ?_)))
theorem szT_r {left : Int} {n : Nat} (h : 0 ≤ left ∧ left ≤ 1048576) (hn : ¬ szT left n < 0) : (0 ≤ szT left n ∧ szT left n ≤ 1048576) ∧ szT left n = left - n ∧ (n : Int) ≤ left := by
  unfold szT at *; split at hn <;> simp_all <;> omega
theorem szT_two {left : Int} {n m : Nat} (hn : ¬ szT left n < 0) : szT (szT left n) m = szT left (n + m) := by
  unfold szT at *; split at hn <;> simp_all <;> omega
theorem szT_neg {left : Int} {n m : Nat} (h : 0 ≤ left) (hn : szT left n < 0) : szT left (n + m) = -1 := by
  unfold szT at *; split at hn <;> simp_all <;> omega
theorem szMouth_ok (e : Mouth) (left : Int) (h0 : 0 ≤ left ∧ left ≤ 1048576) (h1 : e.keep.length ≤ 9223372036854775807) (h2 : e.early.length ≤ 9223372036854775807) : Pure 71 [(true, e.cL), int left] (.pv (int (szT left (e.keep.length + e.early.length)))) := by
  refine fn_of_vc tab_ok mixed Try.call71 Try.func71 rfl [] _ _ (by kernel_rfl) rfl rfl rfl ?_
  (conv => whnf); refine goP (szByteS_ok e.keep left h0 h1) ?_
  (conv => whnf); split <;> rename_i hq <;> simp only [decide_eq_true_eq, decide_eq_false_iff_not] at hq
  · rw [szT_neg h0.1 hq]; (conv => whnf); exact ret1 (by rfl) (by rfl) (by rfl)
  obtain ⟨a1, a2, a3⟩ := szT_r h0 hq
  (conv => whnf); refine goP (szRangeS_ok e.early _ a1 h2) ?_
  rw [← szT_two hq]
  (conv => whnf); split <;> rename_i hq2 <;> simp only [decide_eq_true_eq, decide_eq_false_iff_not] at hq2
  · have : szT (szT left e.keep.length) e.early.length = -1 := by unfold szT at hq2 ⊢; split at hq2 <;> simp_all <;> omega
    rw [this]; (conv => whnf); exact ret1 (by rfl) (by rfl) (by rfl)
  · (conv => whnf); exact ret1 (by rfl) (by rfl) (by rfl)
theorem szEar_ok (e : Ear) (left : Int) (h0 : 0 ≤ left ∧ left ≤ 1048576) (h1 : e.got.length ≤ 9223372036854775807) (h2 : e.far.length ≤ 9223372036854775807) : Pure 107 [(true, e.cL), int left] (.pv (int (szT left (e.got.length + e.far.length)))) := by
  refine fn_of_vc tab_ok mixed Try.call107 Try.func107 rfl [] _ _ (by kernel_rfl) rfl rfl rfl ?_
  (conv => whnf); refine goP (szByteS_ok e.got left h0 h1) ?_
  (conv => whnf); split <;> rename_i hq <;> simp only [decide_eq_true_eq, decide_eq_false_iff_not] at hq
  · rw [szT_neg h0.1 hq]; (conv => whnf); exact ret1 (by rfl) (by rfl) (by rfl)
  obtain ⟨a1, a2, a3⟩ := szT_r h0 hq
  (conv => whnf); refine goP (szEarlyS_ok e.far _ a1 h2) ?_
  rw [← szT_two hq]
  (conv => whnf); split <;> rename_i hq2 <;> simp only [decide_eq_true_eq, decide_eq_false_iff_not] at hq2
  · have : szT (szT left e.got.length) e.far.length = -1 := by unfold szT at hq2 ⊢; split at hq2 <;> simp_all <;> omega
    rw [this]; (conv => whnf); exact ret1 (by rfl) (by rfl) (by rfl)
  · (conv => whnf); exact ret1 (by rfl) (by rfl) (by rfl)
/-- How many elements an end's lists hold. -/
def End.all (e : End) : Nat := (e.out.keep.length + e.out.early.length) + (e.inn.got.length + e.inn.far.length)
/-- No list is longer than a slice can be. -/
structure End.fits (e : End) : Prop where
  keep : e.out.keep.length ≤ 9223372036854775807
  early : e.out.early.length ≤ 9223372036854775807
  got : e.inn.got.length ≤ 9223372036854775807
  far : e.inn.far.length ≤ 9223372036854775807
theorem szEnd_ok (e : End) (left : Int) (h0 : 0 ≤ left ∧ left ≤ 1048576) (hs : e.fits) : Pure 41 [(true, e.cL), int left] (.pv (int (szT left e.all))) := by
  refine fn_of_vc tab_ok mixed Try.call41 Try.func41 rfl [] _ _ (by kernel_rfl) rfl rfl rfl ?_
  (conv => whnf); refine goP (szMouth_ok e.out left h0 hs.keep hs.early) ?_
  (conv => whnf); split <;> rename_i hq <;> simp only [decide_eq_true_eq, decide_eq_false_iff_not] at hq
  · unfold End.all; rw [szT_neg h0.1 hq]; (conv => whnf); exact ret1 (by rfl) (by rfl) (by rfl)
  obtain ⟨a1, a2, a3⟩ := szT_r h0 hq
  (conv => whnf); refine goP (szEar_ok e.inn _ a1 hs.got hs.far) ?_
  unfold End.all
  rw [← szT_two hq]
  (conv => whnf); split <;> rename_i hq2 <;> simp only [decide_eq_true_eq, decide_eq_false_iff_not] at hq2
  · have : szT (szT left (e.out.keep.length + e.out.early.length)) (e.inn.got.length + e.inn.far.length) = -1 := by unfold szT at hq2 ⊢; split at hq2 <;> simp_all <;> omega
    rw [this]; (conv => whnf); exact ret1 (by rfl) (by rfl) (by rfl)
  · (conv => whnf); exact ret1 (by rfl) (by rfl) (by rfl)
theorem szT_small {e : End} {left : Int} (h0 : 0 ≤ left ∧ left ≤ 1048576) (h : ¬ szT left e.all < 0) : e.small := by
  obtain ⟨_, _, h2⟩ := szT_r h0 h
  unfold End.all at h2
  exact ⟨by omega, by omega, by omega, by omega⟩
theorem eqRange_ok (r : Rng) : Pure 163 [r.v, r.v] (.pv (bool true)) := by
  refine fn_of_vc tab_ok mixed Try.call163 Try.func163 rfl [] _ _ (by kernel_rfl) rfl rfl rfl ?_
  repeat' ((conv => whnf); first
      | (fail)
      | (split <;> rename_i hq <;> (try simp only [Bool.not_eq_eq_eq_not, Bool.not_true, Bool.not_false, decide_eq_true_eq, decide_eq_false_iff_not, inB_t, inB_f, bytes_len, List.length_map, Bool.and_eq_true, Bool.and_eq_false_iff, and_true] at hq) <;> (try (exfalso; first | omega | (simp_all; done))))
      | (refine goW (by first | omega | (simp; omega)) (by first | omega | (simp; omega)) ?_)
      | (refine ret1 (by rfl) (by rfl) (outB ?_); first | rfl | grind [inB])
      | (refine ret1 (by rfl) (by rfl) (outI ?_); first | rfl | omega | grind [inB])
      | (refine ret1 (by rfl) (by rfl) (outB ?_)) | (refine ret1 (by rfl) (by rfl) (outI ?_)))
theorem eqEarly_ok (r : Early) : Pure 182 [r.v, r.v] (.pv (bool true)) := by
  refine fn_of_vc tab_ok mixed Try.call182 Try.func182 rfl [] _ _ (by kernel_rfl) rfl rfl rfl ?_
  repeat' ((conv => whnf); first
      | (fail)
      | (split <;> rename_i hq <;> (try simp only [Bool.not_eq_eq_eq_not, Bool.not_true, Bool.not_false, decide_eq_true_eq, decide_eq_false_iff_not, inB_t, inB_f, bytes_len, List.length_map, Bool.and_eq_true, Bool.and_eq_false_iff, and_true] at hq) <;> (try (exfalso; first | omega | (simp_all; done))))
      | (refine goW (by first | omega | (simp; omega)) (by first | omega | (simp; omega)) ?_)
      | (refine ret1 (by rfl) (by rfl) (outB ?_); first | rfl | grind [inB])
      | (refine ret1 (by rfl) (by rfl) (outI ?_); first | rfl | omega | grind [inB])
      | (refine ret1 (by rfl) (by rfl) (outB ?_)) | (refine ret1 (by rfl) (by rfl) (outI ?_)))
theorem eqClock_ok (r : Clock) : Pure 103 [r.v, r.v] (.pv (bool true)) := by
  refine fn_of_vc tab_ok mixed Try.call103 Try.func103 rfl [] _ _ (by kernel_rfl) rfl rfl rfl ?_
  repeat' ((conv => whnf); first
      | (fail)
      | (split <;> rename_i hq <;> (try simp only [Bool.not_eq_eq_eq_not, Bool.not_true, Bool.not_false, decide_eq_true_eq, decide_eq_false_iff_not, inB_t, inB_f, bytes_len, List.length_map, Bool.and_eq_true, Bool.and_eq_false_iff, and_true] at hq) <;> (try (exfalso; first | omega | (simp_all; done))))
      | (refine goW (by first | omega | (simp; omega)) (by first | omega | (simp; omega)) ?_)
      | (refine ret1 (by rfl) (by rfl) (outB ?_); first | rfl | grind [inB])
      | (refine ret1 (by rfl) (by rfl) (outI ?_); first | rfl | omega | grind [inB])
      | (refine ret1 (by rfl) (by rfl) (outB ?_)) | (refine ret1 (by rfl) (by rfl) (outI ?_)))
theorem eqByteS_ok (l : List Int) (hl : l.length ≤ 1100000) : Pure 73 [(false, [.lst 0 0 5 (bytes l)]), (false, [.lst 0 0 5 (bytes l)])] (.pv (bool true)) := by
  refine fn_of_vc tab_ok mixed Try.call73 Try.func73 rfl [] _ _ (by kernel_rfl) rfl rfl rfl ?_
  (conv => whnf); split <;> rename_i hq
  · simp at hq
  (conv => whnf)
  refine ⟨Nat, fun x => x ≤ l.length, fun x => ⟨[(0, .one (.lst 0 0 5 (bytes l))), (1, .one (.lst 0 0 5 (bytes l))), (5, .one (.i .i64 x))], [], [(1, 0)], [], [1]⟩, fun x => l.length - x, 0, fun x => rfl, ?_, (by refine ⟨?_, ?_, ?_⟩ <;> repeat' (first | exact trivial | refine ⟨rfl, ?_⟩)), ?_⟩
  · show 0 ≤ l.length; omega
  rintro k hk
  (conv => whnf); split <;> rename_i h4 <;> simp only [decide_eq_true_eq, decide_eq_false_iff_not] at h4
  case h_2 =>
    (conv => whnf); exact ret1 (by rfl) (by rfl) (by rfl)
  have hlt : k < (bytes l).length := by omega
  have hll : (bytes l).length = l.length := bytes_len l
  (conv => whnf)
  refine ⟨[0, 1, 2, 3, 4, 5, 6, 7, 8], [], (by kernel_rfl), ?_⟩
  (conv => whnf)
  refine goIdx [.i .u8 (l.getD k 0)] (by omega) rfl (by simpa using bytes_get2 hlt) ?_
  (conv => whnf)
  refine goIdx [.i .u8 (l.getD k 0)] (by omega) rfl (by simpa using bytes_get2 hlt) ?_
  (conv => whnf); split <;> rename_i hq2
  · simp at hq2
  (conv => whnf)
  refine goW (by omega) (by omega) ?_
  (conv => whnf)
  refine ⟨k + 1, ?_, (by refine ⟨?_, ?_, ?_⟩ <;> repeat' (first | exact trivial | refine ⟨rfl, ?_⟩)), ?_⟩
  · show k + 1 ≤ l.length; omega
  · show l.length - (k + 1) < l.length - k; omega
theorem map_get {α : Type} (f : α → List AV) (l : List α) (k : Nat) (hk : k < (l.map f).length) : ∃ r, (l.map f)[k]? = some (f r) := by
  have hk : k < l.length := by simpa using hk
  exact ⟨l[k], by simp [List.getElem?_map, List.getElem?_eq_getElem hk]⟩
theorem eqRangeS_ok (l : List Rng) (hl : l.length ≤ 1100000) : Pure 133 [(false, [.lst 0 0 108 (l.map Rng.c)]), (false, [.lst 0 0 108 (l.map Rng.c)])] (.pv (bool true)) := by
  refine fn_of_vc tab_ok mixed Try.call133 Try.func133 rfl [] _ _ (by kernel_rfl) rfl rfl rfl ?_
  (conv => whnf); split <;> rename_i hq
  · simp at hq
  (conv => whnf)
  refine ⟨Nat, fun x => x ≤ l.length, fun x => ⟨[(0, .one (.lst 0 0 108 (l.map Rng.c))), (1, .one (.lst 0 0 108 (l.map Rng.c))), (5, .one (.i .i64 x))], [], [(1, 0)], [], [1]⟩, fun x => l.length - x, 0, fun x => rfl, ?_, (by refine ⟨?_, ?_, ?_⟩ <;> repeat' (first | exact trivial | refine ⟨rfl, ?_⟩)), ?_⟩
  · show 0 ≤ l.length; omega
  rintro k hk
  (conv => whnf); split <;> rename_i h4 <;> simp only [decide_eq_true_eq, decide_eq_false_iff_not] at h4
  case h_2 =>
    (conv => whnf); exact ret1 (by rfl) (by rfl) (by rfl)
  have hlt : k < (l.map Rng.c).length := by omega
  have hll : (l.map Rng.c).length = l.length := by simp
  obtain ⟨r, hr⟩ := map_get Rng.c l k hlt
  (conv => whnf)
  refine ⟨[0, 1, 2, 3, 4, 5, 6, 7, 8, 9], [], (by kernel_rfl), ?_⟩
  (conv => whnf)
  refine goIdx r.c (by omega) rfl (by simpa using hr) ?_
  (conv => whnf)
  refine goIdx r.c (by omega) rfl (by simpa using hr) ?_
  (conv => whnf); refine goP (eqRange_ok r) ?_
  (conv => whnf)
  refine goW (by omega) (by omega) ?_
  (conv => whnf)
  refine ⟨k + 1, ?_, (by refine ⟨?_, ?_, ?_⟩ <;> repeat' (first | exact trivial | refine ⟨rfl, ?_⟩)), ?_⟩
  · show k + 1 ≤ l.length; omega
  · show l.length - (k + 1) < l.length - k; omega
theorem eqEarlyS_ok (l : List Early) (hl : l.length ≤ 1100000) : Pure 147 [(false, [.lst 0 0 138 (l.map Early.c)]), (false, [.lst 0 0 138 (l.map Early.c)])] (.pv (bool true)) := by
  refine fn_of_vc tab_ok mixed Try.call147 Try.func147 rfl [] _ _ (by kernel_rfl) rfl rfl rfl ?_
  (conv => whnf); split <;> rename_i hq
  · simp at hq
  (conv => whnf)
  refine ⟨Nat, fun x => x ≤ l.length, fun x => ⟨[(0, .one (.lst 0 0 138 (l.map Early.c))), (1, .one (.lst 0 0 138 (l.map Early.c))), (5, .one (.i .i64 x))], [], [(1, 0)], [], [1]⟩, fun x => l.length - x, 0, fun x => rfl, ?_, (by refine ⟨?_, ?_, ?_⟩ <;> repeat' (first | exact trivial | refine ⟨rfl, ?_⟩)), ?_⟩
  · show 0 ≤ l.length; omega
  rintro k hk
  (conv => whnf); split <;> rename_i h4 <;> simp only [decide_eq_true_eq, decide_eq_false_iff_not] at h4
  case h_2 =>
    (conv => whnf); exact ret1 (by rfl) (by rfl) (by rfl)
  have hlt : k < (l.map Early.c).length := by omega
  have hll : (l.map Early.c).length = l.length := by simp
  obtain ⟨r, hr⟩ := map_get Early.c l k hlt
  (conv => whnf)
  refine ⟨[0, 1, 2, 3, 4, 5, 6, 7, 8, 9], [], (by kernel_rfl), ?_⟩
  (conv => whnf)
  refine goIdx r.c (by omega) rfl (by simpa using hr) ?_
  (conv => whnf)
  refine goIdx r.c (by omega) rfl (by simpa using hr) ?_
  (conv => whnf); refine goP (eqEarly_ok r) ?_
  (conv => whnf)
  refine goW (by omega) (by omega) ?_
  (conv => whnf)
  refine ⟨k + 1, ?_, (by refine ⟨?_, ?_, ?_⟩ <;> repeat' (first | exact trivial | refine ⟨rfl, ?_⟩)), ?_⟩
  · show k + 1 ≤ l.length; omega
  · show l.length - (k + 1) < l.length - k; omega
theorem eqMouth_ok (e : Mouth) (h1 : e.keep.length ≤ 1100000) (h2 : e.early.length ≤ 1100000) : Pure 74 [e.v, e.v] (.pv (bool true)) := by
  refine fn_of_vc tab_ok mixed Try.call74 Try.func74 rfl [] _ _ (by kernel_rfl) rfl rfl rfl ?_
  repeat' ((conv => whnf); first
      | (refine goP (eqByteS_ok e.keep h1) ?_)
      | (refine goP (eqRangeS_ok e.early h2) ?_)
      | (split <;> rename_i hq <;> (try simp only [Bool.not_eq_eq_eq_not, Bool.not_true, Bool.not_false, decide_eq_true_eq, decide_eq_false_iff_not, inB_t, inB_f, bytes_len, List.length_map, Bool.and_eq_true, Bool.and_eq_false_iff, and_true] at hq) <;> (try (exfalso; first | omega | (simp_all; done))))
      | (refine goW (by first | omega | (simp; omega)) (by first | omega | (simp; omega)) ?_)
      | (refine ret1 (by rfl) (by rfl) (outB ?_); first | rfl | grind [inB])
      | (refine ret1 (by rfl) (by rfl) (outI ?_); first | rfl | omega | grind [inB])
      | (refine ret1 (by rfl) (by rfl) (outB ?_)) | (refine ret1 (by rfl) (by rfl) (outI ?_)))
theorem eqEar_ok (e : Ear) (h1 : e.got.length ≤ 1100000) (h2 : e.far.length ≤ 1100000) : Pure 102 [e.v, e.v] (.pv (bool true)) := by
  refine fn_of_vc tab_ok mixed Try.call102 Try.func102 rfl [] _ _ (by kernel_rfl) rfl rfl rfl ?_
  repeat' ((conv => whnf); first
      | (refine goP (eqByteS_ok e.got h1) ?_)
      | (refine goP (eqEarlyS_ok e.far h2) ?_)
      | (split <;> rename_i hq <;> (try simp only [Bool.not_eq_eq_eq_not, Bool.not_true, Bool.not_false, decide_eq_true_eq, decide_eq_false_iff_not, inB_t, inB_f, bytes_len, List.length_map, Bool.and_eq_true, Bool.and_eq_false_iff, and_true] at hq) <;> (try (exfalso; first | omega | (simp_all; done))))
      | (refine goW (by first | omega | (simp; omega)) (by first | omega | (simp; omega)) ?_)
      | (refine ret1 (by rfl) (by rfl) (outB ?_); first | rfl | grind [inB])
      | (refine ret1 (by rfl) (by rfl) (outI ?_); first | rfl | omega | grind [inB])
      | (refine ret1 (by rfl) (by rfl) (outB ?_)) | (refine ret1 (by rfl) (by rfl) (outI ?_)))
theorem eqEnd_ok (e : End) (hs : e.small) : Pure 38 [e.v, e.v] (.pv (bool true)) := by
  obtain ⟨h1, h2, h3, h4⟩ := hs
  refine fn_of_vc tab_ok mixed Try.call38 Try.func38 rfl [] _ _ (by kernel_rfl) rfl rfl rfl ?_
  repeat' ((conv => whnf); first
      | (refine ⟨rfl, ?_⟩)
      | (refine goP (eqMouth_ok e.out (by omega) (by omega)) ?_)
      | (refine goP (eqEar_ok e.inn (by omega) (by omega)) ?_)
      | (refine goP (eqClock_ok e.pulse) ?_)
      | (split <;> rename_i hq <;> (try simp only [Bool.not_eq_eq_eq_not, Bool.not_true, Bool.not_false, decide_eq_true_eq, decide_eq_false_iff_not, inB_t, inB_f, bytes_len, List.length_map, Bool.and_eq_true, Bool.and_eq_false_iff, and_true] at hq) <;> (try (exfalso; first | omega | (simp_all; done))))
      | (refine goW (by first | omega | (simp; omega)) (by first | omega | (simp; omega)) ?_)
      | (refine ret1 (by rfl) (by rfl) (outB ?_); first | rfl | grind [inB])
      | (refine ret1 (by rfl) (by rfl) (outI ?_); first | rfl | omega | grind [inB])
      | (refine ret1 (by rfl) (by rfl) (outB ?_)) | (refine ret1 (by rfl) (by rfl) (outI ?_)))
end Go.Proofs.Ytpeejmolbmhjjaa.Sx
end

section
namespace Go.Proofs.Ytpeejmolbmhjjaa.Sx
set_option linter.unusedSimpArgs false
set_option linter.unusedVariables false
open Go
set_option maxRecDepth 100000
set_option maxHeartbeats 0
theorem law8 (e : End) (hf : e.fits) : Pure 8 [(true, e.cL)] (.pv (bool true)) := by
  refine fn_of_vc tab_ok mixed Try.call8 Try.func8 rfl [] _ _ (by kernel_rfl) rfl rfl rfl ?_
  (conv => whnf); refine goP (szEnd_ok e 1048576 (by omega) hf) ?_
  (conv => whnf); split <;> rename_i hq <;> simp only [decide_eq_true_eq, decide_eq_false_iff_not] at hq
  · (conv => whnf); exact ret1 (by rfl) (by rfl) (by rfl)
  have hs := szT_small (by omega) hq
  (conv => whnf); refine goP (toEnd_ok e hs) ?_
  (conv => whnf); refine goP (endOk_ok' e hs) ?_
  (conv => whnf); refine goP (toEnd_ok e hs) ?_
  (conv => whnf); refine goP (endOk_ok e hs) ?_
  (conv => whnf); split <;> rename_i hq2
  · simp at hq2
  (conv => whnf)
  refine ⟨[0, 1, 2, 3, 4], [(0, [5]), (1, [1])], (by kernel_rfl), ?_⟩
  (conv => whnf)
  refine goP (toEnd_ok e hs) ?_
  (conv => whnf); refine goP (eqEnd_ok e hs) ?_
  (conv => whnf); exact ret1 (by rfl) (by rfl) (by rfl)
theorem law9 (e : End) (hf : e.fits) : Pure 9 [(true, e.cL)] (.pv (bool true)) := by
  refine fn_of_vc tab_ok mixed Try.call9 Try.func9 rfl [] _ _ (by kernel_rfl) rfl rfl rfl ?_
  (conv => whnf); refine goP (szEnd_ok e 1048576 (by omega) hf) ?_
  (conv => whnf); split <;> rename_i hq <;> simp only [decide_eq_true_eq, decide_eq_false_iff_not] at hq
  · (conv => whnf); exact ret1 (by rfl) (by rfl) (by rfl)
  have hs := szT_small (by omega) hq
  (conv => whnf); refine goP (toEnd_ok e hs) ?_
  (conv => whnf); refine goP (endOver_ok' e hs) ?_
  (conv => whnf); refine goP (toEnd_ok e hs) ?_
  (conv => whnf); refine goP (endOver_ok e hs) ?_
  (conv => whnf); split <;> rename_i hq2
  · simp at hq2
  (conv => whnf)
  refine ⟨[0, 1, 2, 3, 4], [(0, [5]), (1, [1])], (by kernel_rfl), ?_⟩
  (conv => whnf)
  refine goP (toEnd_ok e hs) ?_
  (conv => whnf); refine goP (eqEnd_ok e hs) ?_
  (conv => whnf); exact ret1 (by rfl) (by rfl) (by rfl)
theorem law10 (e : End) (hf : e.fits) : Pure 10 [(true, e.cL)] (.pv (bool true)) := by
  refine fn_of_vc tab_ok mixed Try.call10 Try.func10 rfl [] _ _ (by kernel_rfl) rfl rfl rfl ?_
  (conv => whnf); refine goP (szEnd_ok e 1048576 (by omega) hf) ?_
  (conv => whnf); split <;> rename_i hq <;> simp only [decide_eq_true_eq, decide_eq_false_iff_not] at hq
  · (conv => whnf); exact ret1 (by rfl) (by rfl) (by rfl)
  have hs := szT_small (by omega) hq
  (conv => whnf); refine goP (toEnd_ok e hs) ?_
  (conv => whnf); refine goP (ready_ok' e hs) ?_
  (conv => whnf); refine goP (toEnd_ok e hs) ?_
  (conv => whnf); refine goP (ready_ok e hs) ?_
  (conv => whnf); split <;> rename_i hq2
  · simp at hq2
  (conv => whnf)
  refine ⟨[0, 1, 2, 3, 4], [(0, [5]), (1, [1])], (by kernel_rfl), ?_⟩
  (conv => whnf)
  refine goP (toEnd_ok e hs) ?_
  (conv => whnf); refine goP (eqEnd_ok e hs) ?_
  (conv => whnf); exact ret1 (by rfl) (by rfl) (by rfl)
theorem toWatch_ok (r : Watch) : Pure 47 [r.v] (.pv r.v) := by
  refine fn_of_vc tab_ok mixed Try.call47 Try.func47 rfl [] _ _ (by kernel_rfl) rfl rfl rfl ?_
  (conv => whnf); exact ret1 (by rfl) (by rfl) (by rfl)
theorem eqWatch_ok (r : Watch) : Pure 48 [r.v, r.v] (.pv (bool true)) := by
  refine fn_of_vc tab_ok mixed Try.call48 Try.func48 rfl [] _ _ (by kernel_rfl) rfl rfl rfl ?_
  repeat' ((conv => whnf); first
      | (fail)
      | (split <;> rename_i hq <;> (try simp only [Bool.not_eq_eq_eq_not, Bool.not_true, Bool.not_false, decide_eq_true_eq, decide_eq_false_iff_not, inB_t, inB_f, bytes_len, List.length_map, Bool.and_eq_true, Bool.and_eq_false_iff, and_true] at hq) <;> (try (exfalso; first | omega | (simp_all; done))))
      | (refine goW (by first | omega | (simp; omega)) (by first | omega | (simp; omega)) ?_)
      | (refine ret1 (by rfl) (by rfl) (outB ?_); first | rfl | grind [inB])
      | (refine ret1 (by rfl) (by rfl) (outI ?_); first | rfl | omega | grind [inB])
      | (refine ret1 (by rfl) (by rfl) (outB ?_)) | (refine ret1 (by rfl) (by rfl) (outI ?_)))
theorem law11 (w : Watch) (e : End) (hf : e.fits) : Pure 11 [w.v, (true, e.cL)] (.pv (bool true)) := by
  refine fn_of_vc tab_ok mixed Try.call11 Try.func11 rfl [] _ _ (by kernel_rfl) rfl rfl rfl ?_
  (conv => whnf); refine goP (szEnd_ok e 1048576 (by omega) hf) ?_
  (conv => whnf); split <;> rename_i hq <;> simp only [decide_eq_true_eq, decide_eq_false_iff_not] at hq
  · (conv => whnf); exact ret1 (by rfl) (by rfl) (by rfl)
  have hs := szT_small (by omega) hq
  (conv => whnf)
  refine ⟨[0, 2, 1, 3, 4, 5], [(0, [2]), (2, [3])], (by kernel_rfl), ?_⟩
  (conv => whnf)
  refine goP (toWatch_ok w) ?_
  (conv => whnf); refine goP (toEnd_ok e hs) ?_
  (conv => whnf); refine goP (watchLevel_ok' w e hs) ?_
  (conv => whnf); refine goP (toEnd_ok e hs) ?_
  (conv => whnf)
  refine ⟨[0, 2, 1, 3, 4], [(0, [2]), (2, [7])], (by kernel_rfl), ?_⟩
  (conv => whnf)
  refine goP (toWatch_ok w) ?_
  (conv => whnf); refine goP (watchLevel_ok w e hs) ?_
  (conv => whnf); split <;> rename_i hq2
  · simp at hq2
  (conv => whnf)
  refine ⟨[0, 1, 2, 3, 4], [(0, [7]), (1, [3])], (by kernel_rfl), ?_⟩
  (conv => whnf)
  refine goP (toEnd_ok e hs) ?_
  (conv => whnf); refine goP (eqEnd_ok e hs) ?_
  (conv => whnf); exact ret1 (by rfl) (by rfl) (by rfl)
theorem law12 (w : Watch) (e : End) (hf : e.fits) : Pure 12 [w.v, (true, e.cL)] (.pv (bool true)) := by
  refine fn_of_vc tab_ok mixed Try.call12 Try.func12 rfl [] _ _ (by kernel_rfl) rfl rfl rfl ?_
  (conv => whnf); refine goP (szEnd_ok e 1048576 (by omega) hf) ?_
  (conv => whnf); split <;> rename_i hq <;> simp only [decide_eq_true_eq, decide_eq_false_iff_not] at hq
  · (conv => whnf); exact ret1 (by rfl) (by rfl) (by rfl)
  have hs := szT_small (by omega) hq
  (conv => whnf)
  refine ⟨[0, 2, 8, 1, 3, 4, 5, 6, 7, 9, 10], [(0, [2]), (2, [3]), (9, [6])], (by kernel_rfl), ?_⟩
  (conv => whnf)
  refine goP (toWatch_ok w) ?_
  (conv => whnf); refine goP (toEnd_ok e hs) ?_
  (conv => whnf); refine goP (watchEdge_ok' w e hs) ?_
  (conv => whnf); refine goP (toEnd_ok e hs) ?_
  (conv => whnf)
  refine ⟨[0, 2, 7, 1, 3, 4, 5, 6, 8, 9], [(0, [2]), (2, [8]), (8, [9])], (by kernel_rfl), ?_⟩
  (conv => whnf)
  refine goP (toWatch_ok w) ?_
  (conv => whnf); refine goP (watchEdge_ok w e hs) ?_
  (conv => whnf); refine goP (eqWatch_ok _) ?_
  (conv => whnf); split <;> rename_i hq2
  · simp at hq2
  (conv => whnf)
  refine ⟨[0, 1, 2, 3, 4], [(0, [8]), (1, [3])], (by kernel_rfl), ?_⟩
  (conv => whnf)
  refine goP (toEnd_ok e hs) ?_
  (conv => whnf); refine goP (eqEnd_ok e hs) ?_
  (conv => whnf); exact ret1 (by rfl) (by rfl) (by rfl)
end Go.Proofs.Ytpeejmolbmhjjaa.Sx
end

section
namespace Go.Proofs.Ytpeejmolbmhjjaa.Sx
set_option linter.unusedSimpArgs false
set_option linter.unusedVariables false
open Go Go.RowKit Go.ChangeShapes Go.WideShapes Go.ChangeAt Go.Deep
set_option maxRecDepth 100000
theorem o3 {c : Bool} : Op Try.prog c 3 (isInt .i64) := op_int Try.underlying3
theorem o4 {c : Bool} : Op Try.prog c 4 isBool := op_bool Try.underlying4
theorem o5 {c : Bool} : Op Try.prog c 5 (isInt .u8) := op_int Try.underlying5
theorem o22 {c : Bool} : Op Try.prog c 22 (isLst 5 (isInt .u8)) := op_slice (sz := 0) Try.underlying22 (by kernel_rfl) o5
theorem o189 {c : Bool} : Op Try.prog c 189 (isTwo (isInt .i64) (isInt .i64)) := op_struct Try.underlying189 (opF_cons (sz := 1) o3 rfl (by kernel_rfl) (opF_one (sz := 1) o3 rfl (by kernel_rfl))) (by kernel_rfl)
theorem o206 {c : Bool} : Op Try.prog c 206 (isTwo (isInt .i64) (isInt .u8)) := op_struct Try.underlying206 (opF_cons (sz := 1) o3 rfl (by kernel_rfl) (opF_one (sz := 1) o5 rfl (by kernel_rfl))) (by kernel_rfl)
theorem o72 {c : Bool} : Op Try.prog c 72 (isTwo (isInt .i64) (isInt .i64)) := op_struct Try.underlying72 (opF_cons (sz := 1) o3 rfl (by kernel_rfl) (opF_one (sz := 1) o3 rfl (by kernel_rfl))) (by kernel_rfl)
theorem o60 {c : Bool} : Op Try.prog c 60 (isLst 189 (isTwo (isInt .i64) (isInt .i64))) := op_slice (sz := 1) Try.underlying60 (by kernel_rfl) o189
theorem o63 {c : Bool} : Op Try.prog c 63 (isLst 206 (isTwo (isInt .i64) (isInt .u8))) := op_slice (sz := 1) Try.underlying63 (by kernel_rfl) o206
def isMouth : List AV → Prop := isTwo (isInt .i64) (isTwo (isLst 5 (isInt .u8)) (isTwo (isInt .i64) (isTwo (isInt .i64) (isLst 189 (isTwo (isInt .i64) (isInt .i64))))))
theorem o62 {c : Bool} : Op Try.prog c 62 isMouth :=
  op_struct Try.underlying62 (opF_cons (sz := 1) o3 rfl (by kernel_rfl) (opF_cons (sz := 1) o22 rfl (by kernel_rfl) (opF_cons (sz := 1) o3 rfl (by kernel_rfl) (opF_cons (sz := 1) o3 rfl (by kernel_rfl) (opF_one (sz := 1) o60 rfl (by kernel_rfl)))))) (by kernel_rfl)
def isEar : List AV → Prop := isTwo (isInt .i64) (isTwo (isInt .i64) (isTwo (isLst 5 (isInt .u8)) (isLst 206 (isTwo (isInt .i64) (isInt .u8)))))
theorem o65 {c : Bool} : Op Try.prog c 65 isEar :=
  op_struct Try.underlying65 (opF_cons (sz := 1) o3 rfl (by kernel_rfl) (opF_cons (sz := 1) o3 rfl (by kernel_rfl) (opF_cons (sz := 1) o22 rfl (by kernel_rfl) (opF_one (sz := 1) o63 rfl (by kernel_rfl))))) (by kernel_rfl)
def isClock : List AV → Prop := isTwo (isInt .i64) (isTwo (isInt .i64) (isInt .i64))
theorem o66 {c : Bool} : Op Try.prog c 66 isClock := op_struct Try.underlying66 (opF_cons (sz := 1) o3 rfl (by kernel_rfl) (opF_cons (sz := 1) o3 rfl (by kernel_rfl) (opF_one (sz := 1) o3 rfl (by kernel_rfl)))) (by kernel_rfl)
def isEnd : List AV → Prop :=
  isTwo (isInt .i64) (isTwo (isInt .i64) (isTwo (isInt .i64) (isTwo (isInt .i64) (isTwo (isInt .i64) (isTwo (isInt .i64) (isTwo isMouth (isTwo isEar (isTwo isBool (isTwo isBool (isTwo isBool (isTwo (isInt .i64) (isTwo (isInt .i64) (isTwo (isInt .i64) isClock)))))))))))))
theorem o68 {c : Bool} : Op Try.prog c 68 isEnd :=
  op_struct Try.underlying68 (opF_cons (sz := 1) o3 rfl (by kernel_rfl) (opF_cons (sz := 1) o3 rfl (by kernel_rfl) (opF_cons (sz := 1) o3 rfl (by kernel_rfl) (opF_cons (sz := 1) o3 rfl (by kernel_rfl) (opF_cons (sz := 1) o3 rfl (by kernel_rfl) (opF_cons (sz := 1) o3 rfl (by kernel_rfl)
    (opF_cons (sz := 5) o62 rfl (by kernel_rfl) (opF_cons (sz := 4) o65 rfl (by kernel_rfl) (opF_cons (sz := 1) o4 rfl (by kernel_rfl) (opF_cons (sz := 1) o4 rfl (by kernel_rfl) (opF_cons (sz := 1) o4 rfl (by kernel_rfl) (opF_cons (sz := 1) o3 rfl (by kernel_rfl) (opF_cons (sz := 1) o3 rfl (by kernel_rfl) (opF_cons (sz := 1) o3 rfl (by kernel_rfl)
    (opF_one (sz := 3) o66 rfl (by kernel_rfl)))))))))))))))) (by kernel_rfl)
theorem bytes_of {av : List AV} (h : isLst 5 (isInt .u8) av) : ∃ l : List Int, av = [.lst 0 0 5 (bytes l)] ∧ l.length ≤ 9223372036854775807 := by
  obtain ⟨es, rfl, hl, hq⟩ := h
  obtain ⟨l, rfl, _⟩ := list_of (f := fun x : Int => [AV.i .u8 x]) (W := fun _ => True) (fun xs ⟨n, h, _⟩ => ⟨n, h, trivial⟩) es hq
  rw [List.length_map] at hl
  unfold maxLen at hl
  exact ⟨l, rfl, by omega⟩
theorem ranges_of {av : List AV} (h : isLst 189 (isTwo (isInt .i64) (isInt .i64)) av) : ∃ l : List Rng, av = [.lst 0 0 189 (l.map Rng.c)] ∧ l.length ≤ 9223372036854775807 := by
  obtain ⟨es, rfl, hl, hq⟩ := h
  obtain ⟨l, rfl, _⟩ := list_of (f := Rng.c) (W := fun _ => True) (fun xs h => by
    obtain ⟨_, _, rfl, ⟨a, rfl, _⟩, ⟨b, rfl, _⟩⟩ := h
    exact ⟨⟨a, b⟩, rfl, trivial⟩) es hq
  rw [List.length_map] at hl
  unfold maxLen at hl
  exact ⟨l, rfl, by omega⟩
theorem earlies_of {av : List AV} (h : isLst 206 (isTwo (isInt .i64) (isInt .u8)) av) : ∃ l : List Early, av = [.lst 0 0 206 (l.map Early.c)] ∧ l.length ≤ 9223372036854775807 := by
  obtain ⟨es, rfl, hl, hq⟩ := h
  obtain ⟨l, rfl, _⟩ := list_of (f := Early.c) (W := fun _ => True) (fun xs h => by
    obtain ⟨_, _, rfl, ⟨a, rfl, _⟩, ⟨b, rfl, _⟩⟩ := h
    exact ⟨⟨a, b⟩, rfl, trivial⟩) es hq
  rw [List.length_map] at hl
  unfold maxLen at hl
  exact ⟨l, rfl, by omega⟩
theorem mouth_of {av : List AV} (h : isMouth av) : ∃ e : Mouth, av = e.cL ∧ e.keep.length ≤ 9223372036854775807 ∧ e.early.length ≤ 9223372036854775807 := by
  obtain ⟨_, _, rfl, ⟨a, rfl, _⟩, _, _, rfl, hk, _, _, rfl, ⟨b, rfl, _⟩, _, _, rfl, ⟨c, rfl, _⟩, hr⟩ := h
  obtain ⟨k, rfl, h1⟩ := bytes_of hk
  obtain ⟨r, rfl, h2⟩ := ranges_of hr
  exact ⟨⟨a, k, b, c, r⟩, rfl, h1, h2⟩
theorem ear_of {av : List AV} (h : isEar av) : ∃ e : Ear, av = e.cL ∧ e.got.length ≤ 9223372036854775807 ∧ e.far.length ≤ 9223372036854775807 := by
  obtain ⟨_, _, rfl, ⟨a, rfl, _⟩, _, _, rfl, ⟨b, rfl, _⟩, _, _, rfl, hk, hr⟩ := h
  obtain ⟨k, rfl, h1⟩ := bytes_of hk
  obtain ⟨r, rfl, h2⟩ := earlies_of hr
  exact ⟨⟨a, b, k, r⟩, rfl, h1, h2⟩
theorem clock_of {av : List AV} (h : isClock av) : ∃ e : Clock, av = e.c := by
  obtain ⟨_, _, rfl, ⟨a, rfl, _⟩, _, _, rfl, ⟨b, rfl, _⟩, ⟨c, rfl, _⟩⟩ := h
  exact ⟨⟨a, b, c⟩, rfl⟩
theorem end_of {av : List AV} (h : isEnd av) : ∃ e : End, av = e.cL ∧ e.fits := by
  obtain ⟨_, _, rfl, ⟨a1, rfl, _⟩, _, _, rfl, ⟨a2, rfl, _⟩, _, _, rfl, ⟨a3, rfl, _⟩, _, _, rfl, ⟨a4, rfl, _⟩, _, _, rfl, ⟨a5, rfl, _⟩, _, _, rfl, ⟨a6, rfl, _⟩, _, _, rfl, hm, _, _, rfl, he,
    _, _, rfl, ⟨b1, rfl⟩, _, _, rfl, ⟨b2, rfl⟩, _, _, rfl, ⟨b3, rfl⟩, _, _, rfl, ⟨a7, rfl, _⟩, _, _, rfl, ⟨a8, rfl, _⟩, _, _, rfl, ⟨a9, rfl, _⟩, hc⟩ := h
  obtain ⟨m, rfl, m1, m2⟩ := mouth_of hm
  obtain ⟨r, rfl, r1, r2⟩ := ear_of he
  obtain ⟨c, rfl⟩ := clock_of hc
  exact ⟨⟨a1, a2, a3, a4, a5, a6, m, r, b1, b2, b3, a7, a8, a9, c⟩, rfl, ⟨m1, m2, r1, r2⟩⟩
theorem watch_of {av : List AV} (h : isTwo (isInt .i64) (isInt .i64) av) : ∃ e : Watch, av = e.c := by
  obtain ⟨_, _, rfl, ⟨a, rfl, _⟩, ⟨b, rfl, _⟩⟩ := h
  exact ⟨⟨a, b⟩, rfl⟩
theorem struct_arg {t : TypeId} {Q : List AV → Prop} {fs : Array Field} (ht : Try.prog.underlying t = some (.struct fs)) (ho : Op Try.prog true t Q) {H : Type} {enc : TypeId × Value → H} {W : World} {r : Reach} {base base' : Nat} {spare : Nat → Bool} {held : Bool} {v : Value} {x : DataW H × List MemPlace}
    (ok : Value.okWide Try.prog W r base' t v) (h : ∃ fuel, DataW.trod enc Try.prog W base spare held fuel t v.cells.toList = some x) :
    ∃ av, Q av ∧ RepP (Rep Try.prog (fun _ _ => False) id (fun _ => false) W) (true, av) v := by
  simp only [Value.okWide, ht] at ok
  obtain ⟨cs, rfl, _, hrow⟩ := ok
  obtain ⟨fuel, hf⟩ := h
  obtain ⟨av, h1, _, h2⟩ := ho _ _ _ _ _ _ _ _ _ hf (fun _ a len cap hm => spot_of_okWide hrow a len cap hm)
  exact ⟨av, h2, RepP.agg (h1 _ _)⟩
end Go.Proofs.Ytpeejmolbmhjjaa.Sx
end

section
namespace Go.Proofs.Ytpeejmolbmhjjaa.Sx
set_option linter.unusedSimpArgs false
set_option linter.unusedVariables false
open Go
set_option maxRecDepth 100000
set_option maxHeartbeats 0
def ic (n : Int) : List AV := [.i .i64 n]
abbrev ints (l : List Int) : PV := (false, [.lst 0 0 3 (l.map ic)])
abbrev wts (l : List Watch) : PV := (false, [.lst 0 0 24 (l.map Watch.c)])
abbrev ens (l : List End) : PV := (false, [.lst 0 0 34 (l.map End.c)])
instance : Inhabited Watch := ⟨⟨0, 0⟩⟩
instance : Inhabited End := ⟨zeroEnd⟩
def wat (l : List Watch) (k : Nat) : Watch := l.getD k default
def eat (l : List End) (k : Nat) : End := l.getD k default
def iat (l : List Int) (k : Nat) : Int := l.getD k 0
theorem wat_get {l : List Watch} {k : Nat} (h : k < l.length) : (l.map Watch.c)[k]? = some (wat l k).c := by
  simp [List.getElem?_map, wat, List.getD, List.getElem?_eq_getElem h]
theorem eat_get {l : List End} {k : Nat} (h : k < l.length) : (l.map End.c)[k]? = some (eat l k).c := by
  simp [List.getElem?_map, eat, List.getD, List.getElem?_eq_getElem h]
theorem iat_get {l : List Int} {k : Nat} (h : k < l.length) : (l.map ic)[k]? = some (ic (iat l k)) := by
  simp [List.getElem?_map, iat, List.getD, List.getElem?_eq_getElem h]
theorem eat_mem {l : List End} {k : Nat} (h : k < l.length) : eat l k ∈ l := by
  simp [eat, List.getD, List.getElem?_eq_getElem h]
/-- The numbers of the ends that tell something, from the k-th on. -/
def allW : Nat → List Watch → List End → List Int
  | k, w :: ws, e :: es => if 0 < w.level e then (k : Int) :: allW (k + 1) ws es else allW (k + 1) ws es
  | _, _, _ => []
theorem allW_step {ws : List Watch} {es : List End} {k : Nat} (h1 : k < ws.length) (h2 : k < es.length) :
    allW k (ws.drop k) (es.drop k) = if 0 < (wat ws k).level (eat es k) then (k : Int) :: allW (k + 1) (ws.drop (k + 1)) (es.drop (k + 1)) else allW (k + 1) (ws.drop (k + 1)) (es.drop (k + 1)) := by
  rw [List.drop_eq_getElem_cons h1, List.drop_eq_getElem_cons h2]
  simp [allW, wat, eat, List.getD, List.getElem?_eq_getElem h1, List.getElem?_eq_getElem h2]
theorem allW_len : ∀ (k : Nat) (ws : List Watch) (es : List End), (allW k ws es).length ≤ ws.length
  | _, [], _ => by simp [allW]
  | _, _ :: _, [] => by simp [allW]
  | k, w :: ws, e :: es => by
    have := allW_len (k + 1) ws es
    simp only [allW]; split <;> simp <;> omega
theorem allW_ge : ∀ (k : Nat) (ws : List Watch) (es : List End), ∀ x ∈ allW k ws es, (k : Int) ≤ x
  | _, [], _ => by simp [allW]
  | _, _ :: _, [] => by simp [allW]
  | k, w :: ws, e :: es => by
    intro x hx
    have := allW_ge (k + 1) ws es
    simp only [allW] at hx
    split at hx
    · rcases List.mem_cons.1 hx with rfl | hx
      · omega
      · have := this x hx; omega
    · have := this x hx; omega
theorem allW_mem : ∀ (k : Nat) (ws : List Watch) (es : List End) (j : Nat), j < ws.length → j < es.length → (((k + j : Nat) : Int) ∈ allW k ws es ↔ 0 < (wat ws j).level (eat es j))
  | _, [], _, j, h1, h2 => by simp at h1
  | _, _ :: _, [], j, h1, h2 => by simp at h2
  | k, w :: ws, e :: es, 0, h1, h2 => by
    have hg := allW_ge (k + 1) ws es
    simp only [allW]
    show _ ↔ 0 < w.level e
    by_cases h : 0 < w.level e
    · rw [if_pos h]; simp [h]
    · rw [if_neg h]
      exact ⟨fun hh => by have := hg _ hh; omega, fun hh => absurd hh h⟩
  | k, w :: ws, e :: es, j + 1, h1, h2 => by
    have ih := allW_mem (k + 1) ws es j (by simpa using h1) (by simpa using h2)
    have e1 : ((k + (j + 1) : Nat) : Int) = ((k + 1 + j : Nat) : Int) := by omega
    have e2 : wat (w :: ws) (j + 1) = wat ws j := by simp [wat, List.getD]
    have e3 : eat (e :: es) (j + 1) = eat es j := by simp [eat, List.getD]
    rw [e1, e2, e3, ← ih]
    simp only [allW]
    split
    · simp only [List.mem_cons]
      constructor
      · rintro (h | h)
        · omega
        · exact h
      · exact .inr
    · rfl
def allWE (ws : List Watch) (es : List End) : List Int := if ws.length = es.length then allW 0 ws es else []
theorem allWE_len (ws : List Watch) (es : List End) : (allWE ws es).length ≤ ws.length := by
  unfold allWE; split
  · exact allW_len 0 ws es
  · simp
theorem clipI_ok (l : List Int) (hl : l.length < 1000000000) : Pure 145 [ints l] (.pv (ints l)) := by
  refine fn_of_vc tab_ok mixed Try.call145 Try.func145 rfl [] _ _ (by kernel_rfl) rfl rfl rfl ?_
  (conv => whnf)
  refine ⟨rfl, by omega, by omega, ?_⟩
  (conv => whnf)
  refine ret1 (by rfl) (by rfl) ?_
  show ({ res := .pv (false, [AV.lst 0 0 3 _]) } : Out) = _
  simp only [Int.toNat_natCast, List.take_length]
theorem cloneI_ok (l : List Int) (hl : l.length < 1000000000) : Pure 89 [ints l] (.pv (ints l)) := by
  refine fn_of_vc tab_ok mixed Try.call89 Try.func89 rfl [] _ _ (by kernel_rfl) rfl rfl rfl ?_
  (conv => whnf); split <;> rename_i hq
  · (conv => whnf); refine ret1 (by rfl) (by rfl) ?_
    have : l = [] := by simpa using hq
    subst this; rfl
  (conv => whnf)
  refine ⟨by show (0 + (List.map ic l).length) * 8 ≤ 140737488355328; simp; omega, ?_⟩
  (conv => whnf); refine goP (clipI_ok l hl) ?_
  (conv => whnf)
  refine ret1 (by rfl) (by rfl) ?_
  rfl
theorem watchAll_ok (ws : List Watch) (es : List End) (h1 : ws.length < 100000000) (h2 : es.length < 100000000) (hs : ∀ e ∈ es, e.small) : Pure 28 [wts ws, ens es] (.pv (ints (allWE ws es))) := by
  have kw : (ws.map Watch.c).length = ws.length := by simp
  have ke : (es.map End.c).length = es.length := by simp
  refine fn_of_vc tab_ok mixed Try.call28 Try.func28 rfl [] _ _ (by kernel_rfl) rfl rfl rfl ?_
  (conv => whnf); split <;> rename_i hq <;> simp only [decide_eq_true_eq, decide_eq_false_iff_not, Bool.not_eq_eq_eq_not, Bool.not_true, Bool.not_false] at hq
  · (conv => whnf)
    refine ret1 (by rfl) (by rfl) ?_
    rw [allWE, if_neg (by omega)]; rfl
  have hlen : ws.length = es.length := by omega
  (conv => whnf)
  refine ⟨Nat × List Int × List (List AV) × Nat, fun x => x.2.2.1 = x.2.1.map ic ∧ x.1 ≤ ws.length ∧ x.2.1.length ≤ x.1 ∧ x.2.1 ++ allW x.1 (ws.drop x.1) (es.drop x.1) = allW 0 ws es, fun x => ⟨[(1, .one (.lst 0 0 34 (es.map End.c))), (5, .one (.lst 80 x.2.2.2 3 x.2.2.1)), (13, .one (.lst 0 0 24 (ws.map Watch.c))), (14, .one (.i .i64 (ws.map Watch.c).length)), (15, .one (.i .i64 x.1))], [], [(80, x.2.2.2), (1, 0)], [], [80,1]⟩, fun x => ws.length - x.1, (0, [], [], 0), fun x => rfl, ?_, (by refine ⟨?_, ?_, ?_⟩ <;> repeat' (first | exact trivial | refine ⟨rfl, ?_⟩)), ?_⟩
  · exact ⟨rfl, by simp, by simp, by simp⟩
  rintro ⟨k, acc, cs, v⟩ ⟨hcs, hk, ha, hinv⟩
  dsimp only at hcs hk ha hinv
  subst hcs
  have kl : (acc.map ic).length = acc.length := by simp
  (conv => whnf); split <;> rename_i h4 <;> simp only [decide_eq_true_eq, decide_eq_false_iff_not] at h4
  case h_2 =>
    have hke : k = ws.length := by omega
    have hacc : acc = allWE ws es := by
      rw [allWE, if_pos hlen, ← hinv, hke, List.drop_length]; simp [allW]
    subst hacc
    (conv => whnf); refine goP (cloneI_ok _ (by omega)) ?_
    (conv => whnf); refine ret1 (by rfl) (by rfl) ?_
    rfl
  have hlt : k < ws.length := by omega
  rw [allW_step hlt (by omega)] at hinv
  have hlv := level_r (wat ws k) (eat es k)
  (conv => whnf)
  refine goIdx (wat ws k).c (by omega) rfl (by simpa using wat_get hlt) ?_
  (conv => whnf)
  refine ⟨[0, 1, 2, 3, 4, 5, 6], [(0, [7])], (by kernel_rfl), ?_⟩
  (conv => whnf)
  refine goIdx (eat es k).c (by omega) rfl (by simpa using eat_get (hlen ▸ hlt)) ?_
  (conv => whnf); refine goP (watchLevel_ok (wat ws k) (eat es k) (hs _ (eat_mem (hlen ▸ hlt)))) ?_
  (conv => whnf); split <;> rename_i h5 <;> simp only [decide_eq_true_eq, decide_eq_false_iff_not, Bool.not_eq_eq_eq_not, Bool.not_true, Bool.not_false] at h5
  · rw [if_pos (by omega)] at hinv
    (conv => whnf); refine ⟨by show ((acc.map ic).length + 1) * 8 ≤ 140737488355328; omega, rfl, rfl, ?_⟩
    (conv => whnf); refine goW (by omega) (by omega) ?_
    (conv => whnf)
    refine ⟨(k + 1, acc ++ [(k : Int)], acc.map ic ++ [ic k], v + 1), ?_, (by refine ⟨?_, ?_, ?_⟩ <;> repeat' (first | exact trivial | refine ⟨rfl, ?_⟩)), ?_⟩
    · exact ⟨by simp, by dsimp only; omega, by simp; omega, by rw [← hinv]; simp⟩
    · show ws.length - (k + 1) < ws.length - k; omega
  · rw [if_neg (by omega)] at hinv
    (conv => whnf); refine goW (by omega) (by omega) ?_
    (conv => whnf)
    refine ⟨(k + 1, acc, acc.map ic, v), ?_, (by refine ⟨?_, ?_, ?_⟩ <;> repeat' (first | exact trivial | refine ⟨rfl, ?_⟩)), ?_⟩
    · exact ⟨rfl, by dsimp only; omega, by dsimp only; omega, hinv⟩
    · show ws.length - (k + 1) < ws.length - k; omega
theorem watchAll_ok' (ws : List Watch) (es : List End) (h1 : ws.length < 100000000) (h2 : es.length < 100000000) (hs : ∀ e ∈ es, e.small) : Pure 30 [wts ws, ens es] (.pv (ints (allWE ws es))) := by
  have kw : (ws.map Watch.c).length = ws.length := by simp
  have ke : (es.map End.c).length = es.length := by simp
  refine fn_of_vc tab_ok mixed Try.call30 Try.func30 rfl [] _ _ (by kernel_rfl) rfl rfl rfl ?_
  (conv => whnf)
  refine ⟨Nat × List Int × List (List AV) × Nat, fun x => x.2.2.1 = x.2.1.map ic ∧ x.1 ≤ ws.length ∧ x.2.1.length ≤ x.1 ∧ (ws.length = es.length → x.2.1 ++ allW x.1 (ws.drop x.1) (es.drop x.1) = allW 0 ws es) ∧ (ws.length ≠ es.length → x.1 = 0 ∧ x.2.1 = []), fun x => ⟨[(0, .one (.lst 0 0 24 (ws.map Watch.c))), (1, .one (.lst 0 0 34 (es.map End.c))), (5, .one (.lst 112 x.2.2.2 3 x.2.2.1)), (6, .one (.i .i64 x.1))], [], [(112, x.2.2.2), (1, 0)], [], [112,1]⟩, fun x => ws.length - x.1, (0, [], [], 0), fun x => rfl, ?_, (by refine ⟨?_, ?_, ?_⟩ <;> repeat' (first | exact trivial | refine ⟨rfl, ?_⟩)), ?_⟩
  · exact ⟨rfl, by simp, by simp, by simp, fun _ => ⟨rfl, rfl⟩⟩
  rintro ⟨k, acc, cs, v⟩ ⟨hcs, hk, ha, hinv, hne⟩
  dsimp only at hcs hk ha hinv hne
  subst hcs
  have kl : (acc.map ic).length = acc.length := by simp
  have fin : (k = ws.length ∨ ws.length ≠ es.length) → acc = allWE ws es := by
    intro h
    by_cases hlen : ws.length = es.length
    · have hke : k = ws.length := by omega
      rw [allWE, if_pos hlen, ← hinv hlen, hke, List.drop_length]; simp [allW]
    · rw [allWE, if_neg hlen, (hne hlen).2]
  (conv => whnf); split <;> rename_i h4 <;> simp only [decide_eq_true_eq, decide_eq_false_iff_not] at h4
  case h_2 =>
    (conv => whnf); refine ret1 (by rfl) (by rfl) ?_
    rw [← fin (by omega)]; rfl
  (conv => whnf); split <;> rename_i h6 <;> simp only [decide_eq_true_eq, decide_eq_false_iff_not] at h6
  case h_2 =>
    (conv => whnf); refine ret1 (by rfl) (by rfl) ?_
    rw [← fin (by omega)]; rfl
  have hlt : k < ws.length := by omega
  have hlen : ws.length = es.length := by omega
  have hinv := hinv hlen
  rw [allW_step hlt (by omega)] at hinv
  have hlv := level_r (wat ws k) (eat es k)
  (conv => whnf)
  refine ⟨[0, 1, 2, 3, 4, 5, 6, 7, 8, 9], [], (by kernel_rfl), ?_⟩
  (conv => whnf)
  refine goIdx (wat ws k).c (by omega) rfl (by simpa using wat_get hlt) ?_
  (conv => whnf)
  refine goIdx (eat es k).c (by omega) rfl (by simpa using eat_get (hlen ▸ hlt)) ?_
  (conv => whnf); refine goP (watchLevel_ok' (wat ws k) (eat es k) (hs _ (eat_mem (hlen ▸ hlt)))) ?_
  (conv => whnf); split <;> rename_i h5 <;> simp only [decide_eq_true_eq, decide_eq_false_iff_not] at h5
  · rw [if_pos (by omega)] at hinv
    (conv => whnf); refine ⟨by show ((acc.map ic).length + 1) * 8 ≤ 140737488355328; omega, rfl, rfl, ?_⟩
    (conv => whnf); refine goW (by omega) (by omega) ?_
    (conv => whnf)
    refine ⟨(k + 1, acc ++ [(k : Int)], acc.map ic ++ [ic k], v + 1), ?_, (by refine ⟨?_, ?_, ?_⟩ <;> repeat' (first | exact trivial | refine ⟨rfl, ?_⟩)), ?_⟩
    · exact ⟨by simp, by dsimp only; omega, by simp; omega, fun _ => by rw [← hinv]; simp, fun h => absurd hlen h⟩
    · show ws.length - (k + 1) < ws.length - k; omega
  · rw [if_neg (by omega)] at hinv
    (conv => whnf); refine goW (by omega) (by omega) ?_
    (conv => whnf)
    refine ⟨(k + 1, acc, acc.map ic, v), ?_, (by refine ⟨?_, ?_, ?_⟩ <;> repeat' (first | exact trivial | refine ⟨rfl, ?_⟩)), ?_⟩
    · exact ⟨rfl, by dsimp only; omega, by dsimp only; omega, fun _ => hinv, fun h => absurd hlen h⟩
    · show ws.length - (k + 1) < ws.length - k; omega
theorem sameInts_ok (l : List Int) (hl : l.length ≤ 100000000) : Pure 29 [ints l, ints l] (.pv (bool true)) := by
  have hll : (l.map ic).length = l.length := by simp
  refine fn_of_vc tab_ok mixed Try.call29 Try.func29 rfl [] _ _ (by kernel_rfl) rfl rfl rfl ?_
  (conv => whnf); split <;> rename_i hq
  · simp at hq
  (conv => whnf)
  refine ⟨Nat, fun x => x ≤ l.length, fun x => ⟨[(0, .one (.lst 0 0 3 (l.map ic))), (1, .one (.lst 0 0 3 (l.map ic))), (5, .one (.i .i64 x))], [], [(1, 0)], [], [1]⟩, fun x => l.length - x, 0, fun x => rfl, ?_, (by refine ⟨?_, ?_, ?_⟩ <;> repeat' (first | exact trivial | refine ⟨rfl, ?_⟩)), ?_⟩
  · show 0 ≤ l.length; omega
  rintro k hk
  (conv => whnf); split <;> rename_i h4 <;> simp only [decide_eq_true_eq, decide_eq_false_iff_not] at h4
  case h_2 =>
    (conv => whnf); exact ret1 (by rfl) (by rfl) (by rfl)
  have hlt : k < l.length := by omega
  (conv => whnf)
  refine ⟨[0, 1, 2, 3, 4, 5, 6, 7, 8], [], (by kernel_rfl), ?_⟩
  (conv => whnf)
  refine goIdx (ic (iat l k)) (by omega) rfl (by simpa using iat_get hlt) ?_
  (conv => whnf)
  refine goIdx (ic (iat l k)) (by omega) rfl (by simpa using iat_get hlt) ?_
  (conv => whnf); split <;> rename_i hq2
  · simp at hq2
  (conv => whnf)
  refine goW (by omega) (by omega) ?_
  (conv => whnf)
  refine ⟨k + 1, ?_, (by refine ⟨?_, ?_, ?_⟩ <;> repeat' (first | exact trivial | refine ⟨rfl, ?_⟩)), ?_⟩
  · show k + 1 ≤ l.length; omega
  · show l.length - (k + 1) < l.length - k; omega
theorem hasInt_ok (l : List Int) (n : Int) (hl : l.length ≤ 100000000) : Pure 31 [ints l, int n] (.pv (bool (decide (n ∈ l)))) := by
  have hll : (l.map ic).length = l.length := by simp
  refine fn_of_vc tab_ok mixed Try.call31 Try.func31 rfl [] _ _ (by kernel_rfl) rfl rfl rfl ?_
  (conv => whnf)
  refine ⟨Nat, fun x => x ≤ l.length ∧ ∀ j, j < x → iat l j ≠ n, fun x => ⟨[(0, .one (.lst 0 0 3 (l.map ic))), (1, .one (.i .i64 n)), (5, .one (.i .i64 x))], [], [(1, 0)], [], [1]⟩, fun x => l.length - x, 0, fun x => rfl, ?_, (by refine ⟨?_, ?_, ?_⟩ <;> repeat' (first | exact trivial | refine ⟨rfl, ?_⟩)), ?_⟩
  · exact ⟨by omega, fun j hj => by omega⟩
  rintro k ⟨hk, hj⟩
  (conv => whnf); split <;> rename_i h4 <;> simp only [decide_eq_true_eq, decide_eq_false_iff_not] at h4
  case h_2 =>
    (conv => whnf); refine ret1 (by rfl) (by rfl) (outB ?_)
    symm; apply decide_eq_false
    intro hm
    obtain ⟨j, hj1, hj2⟩ := List.getElem_of_mem hm
    have := hj j (by omega)
    simp [iat, List.getD, List.getElem?_eq_getElem hj1, hj2] at this
  have hlt : k < l.length := by omega
  (conv => whnf)
  refine goIdx (ic (iat l k)) (by omega) rfl (by simpa using iat_get hlt) ?_
  (conv => whnf); split <;> rename_i hq2 <;> simp only [decide_eq_true_eq, decide_eq_false_iff_not] at hq2
  · (conv => whnf); refine ret1 (by rfl) (by rfl) (outB ?_)
    symm; apply decide_eq_true
    rw [← hq2]
    simp [iat, List.getD, List.getElem?_eq_getElem hlt]
  (conv => whnf)
  refine goW (by omega) (by omega) ?_
  (conv => whnf)
  refine ⟨k + 1, ?_, (by refine ⟨?_, ?_, ?_⟩ <;> repeat' (first | exact trivial | refine ⟨rfl, ?_⟩)), ?_⟩
  · refine ⟨by omega, fun j hj2 => ?_⟩
    by_cases hjk : j = k
    · subst hjk; exact hq2
    · exact hj j (by omega)
  · show l.length - (k + 1) < l.length - k; omega
end Go.Proofs.Ytpeejmolbmhjjaa.Sx
end

section
namespace Go.Proofs.Ytpeejmolbmhjjaa.Sx
set_option linter.unusedSimpArgs false
set_option linter.unusedVariables false
open Go
set_option maxRecDepth 100000
set_option maxHeartbeats 0
/-- A function without boxes that comes to something of this kind. -/
def Fx (f : FuncId) (args : List PV) (R : TV → Prop) : Prop := FnM Try.prog f [] args fun o => ∃ v, R v ∧ o = { res := v }
theorem goE {f : FuncId} {args : List PV} {R : TV → Prop} {M : Nat → Option (List AV)} {ok : Nat → Bool} {K : List (Nat × List AV) → Out → Prop} (h : Fx f args R) (hk : ∀ v, R v → K [] { res := v }) :
    ∃ (m : List (Nat × List AV)) (R : Out → Prop), FnM Try.prog f m args R ∧ memIs M ok m ∧ ∀ o, R o → (o.tk.all fun x => Nat.ble 2 x.1 && Nat.blt x.1 9) = true → K m o :=
  ⟨[], _, h, trivial, fun o ho _ => by obtain ⟨v, hv, rfl⟩ := ho; exact hk v hv⟩
theorem retE {T : TT} {rs : List ResultVar} {s : St} {ps : List PV} {R : TV → Prop} (h : resVs T s rs = some ps) (h2 : (ps.all fun p => p.2.all (resA [] 0)) = true) (hR : R (resOf [] 0 ps)) :
    Hold (atRet T rs [] (fun o => ∃ v, R v ∧ o = { res := v }) s) := retG [] 0 h rfl h2 rfl rfl rfl ⟨_, hR, rfl⟩
abbrev byts (l : List Int) : PV := (false, [.lst 0 0 5 (bytes l)])
theorem Mouth.ok_base {m : Mouth} (h : m.ok = true) : m.base := by
  simp only [Mouth.ok, decide_eq_true_eq] at h; exact h.1
theorem Mouth.ok_at {m : Mouth} (h : m.ok = true) (j : Nat) (hj : j < m.early.length) : m.heard < (rat m.early j).fr ∧ (rat m.early j).fr < (rat m.early j).to ∧ (rat m.early j).to ≤ m.heard + m.sent := by
  cases hq : m.okAt j with
  | true => simp only [Mouth.okAt, decide_eq_true_eq] at hq; exact ⟨hq.1, hq.2.1, hq.2.2.1⟩
  | false => rw [Mouth.ok_not (Mouth.ok_base h).2.2.2.2 j hj hq] at h; cases h
theorem clipB_ok (l : List Int) (hl : l.length < 1000000000) : Pure 186 [byts l] (.pv (byts l)) := by
  refine fn_of_vc tab_ok mixed Try.call186 Try.func186 rfl [] _ _ (by kernel_rfl) rfl rfl rfl ?_
  (conv => whnf)
  refine ⟨rfl, by omega, by omega, ?_⟩
  (conv => whnf)
  refine ret1 (by rfl) (by rfl) ?_
  show ({ res := .pv (false, [AV.lst 0 0 5 _]) } : Out) = _
  simp only [Int.toNat_natCast, List.take_length]
theorem cloneB_ok (l : List Int) (hl : l.length < 1000000000) : Pure 160 [byts l] (.pv (byts l)) := by
  have hbl := bytes_len l
  refine fn_of_vc tab_ok mixed Try.call160 Try.func160 rfl [] _ _ (by kernel_rfl) rfl rfl rfl ?_
  (conv => whnf); split <;> rename_i hq
  · (conv => whnf); refine ret1 (by rfl) (by rfl) ?_
    have : l = [] := by simpa using hq
    subst this; rfl
  (conv => whnf)
  refine ⟨by show (0 + (bytes l).length) * 1 ≤ 140737488355328; omega, ?_⟩
  (conv => whnf); refine goP (clipB_ok l hl) ?_
  (conv => whnf)
  refine ret1 (by rfl) (by rfl) ?_
  rfl
theorem copyM_ok (m : Mouth) (hk : m.keep.length < 1000000000) (he : m.early.length < 1000000000) : Pure 184 [m.v] (.pv m.v) := by
  have hbl := bytes_len m.keep
  refine fn_of_vc tab_ok mixed Try.call184 Try.func184 rfl [] _ _ (by kernel_rfl) rfl rfl rfl ?_
  (conv => whnf)
  refine ⟨by show (0 + (bytes m.keep).length) * 1 ≤ 140737488355328; omega, ?_⟩
  (conv => whnf)
  refine ⟨rfl, rfl, ?_⟩
  (conv => whnf)
  refine ⟨by show (0 + (m.early.map Rng.c).length) * 16 ≤ 140737488355328; simp; omega, ?_⟩
  (conv => whnf)
  refine ⟨rfl, rfl, ?_⟩
  (conv => whnf)
  exact ret1 (by rfl) (by rfl) (by rfl)
def mi (a b : Int) : Int := if b < a then b else a
theorem mi_r (a b : Int) : mi a b ≤ a ∧ mi a b ≤ b ∧ (mi a b = a ∨ mi a b = b) := by unfold mi; split <;> omega
theorem mi_comm (a b : Int) : mi a b = mi b a := by have := mi_r a b; have := mi_r b a; omega
/-- How many bytes are told again. -/
def Mouth.againN (m : Mouth) (limit : Int) : Int := match m.early with
  | [] => mi limit m.sent
  | r :: _ => mi (mi limit m.sent) (r.fr - m.heard)
theorem againN_r {m : Mouth} (h : m.ok = true) {limit : Int} (hl : 1 ≤ limit ∧ limit ≤ 12) : 0 ≤ m.againN limit ∧ m.againN limit ≤ m.keep.length ∧ m.againN limit ≤ m.sent ∧ (0 < m.sent → 0 < m.againN limit) ∧ ∀ j, j < m.early.length → m.againN limit ≤ (rat m.early j).fr - m.heard := by
  have hb := Mouth.ok_base h
  have hat := fun j hj => Mouth.ok_at h j hj
  obtain ⟨h1, h2, h3, h4, h5⟩ := hb
  have h0 : ∀ j, j < m.early.length → (rat m.early 0).fr ≤ (rat m.early j).fr := by
    intro j hj
    cases hq : m.okAt j with
    | false => rw [Mouth.ok_not h5 j hj hq] at h; cases h
    | true =>
      simp only [Mouth.okAt, decide_eq_true_eq] at hq
      have h01 := hat 0 (by omega)
      have : j = 0 ∨ j = 1 := by omega
      rcases this with rfl | rfl
      · omega
      · have := hq.2.2.2
        simp at this; omega
  have m1 := mi_r limit m.sent
  unfold Mouth.againN
  cases hm : m.early with
  | nil => dsimp only; exact ⟨by omega, by omega, by omega, by omega, fun j hj => by simp at hj⟩
  | cons r rs =>
    have hr : rat m.early 0 = r := by rw [hm]; rfl
    have h6 := hat 0 (by rw [hm]; simp)
    rw [hr] at h6
    dsimp only
    have m2 := mi_r (mi limit m.sent) (r.fr - m.heard)
    refine ⟨by omega, by omega, by omega, by omega, fun j hj => ?_⟩
    have h7 := h0 j (by rw [hm]; exact hj)
    rw [hr, hm] at h7
    omega
theorem bytes_take (l : List Int) (n : Nat) : (bytes l).take n = bytes (l.take n) := by simp [bytes, List.map_take]
theorem bytes_drop (l : List Int) (n : Nat) : (bytes l).drop n = bytes (l.drop n) := by simp [bytes, List.map_drop]
theorem bytes_app (a b : List Int) : bytes a ++ bytes b = bytes (a ++ b) := by simp [bytes]
theorem again_ok (m : Mouth) (limit : Int) (h : m.ok = true) (hl : 1 ≤ limit ∧ limit ≤ 12) : Pure 126 [m.v, int limit] (.pv (byts (m.keep.take (m.againN limit).toNat))) := by
  obtain ⟨r1, r2, r3, _, _⟩ := againN_r h hl
  have hb := Mouth.ok_base h
  obtain ⟨hd, kp, st, rm, er⟩ := m
  have hbl := bytes_len kp
  obtain ⟨b1, b2, b3, b4, b5⟩ := hb
  dsimp only at *
  cases er with
  | nil =>
    refine fn_of_vc tab_ok mixed Try.call126 Try.func126 rfl [] _ _ (by kernel_rfl) rfl rfl rfl ?_
    (conv => whnf)
    refine ⟨r1, by rw [hbl]; exact r2, ?_⟩
    rw [bytes_take]
    (conv => whnf); refine goP (cloneB_ok _ (by simp; omega)) ?_
    (conv => whnf); exact ret1 (by rfl) (by rfl) (by rfl)
  | cons r rs =>
    have h6 := Mouth.ok_at h 0 (by simp)
    simp [rat] at h6
    refine fn_of_vc tab_ok mixed Try.call126 Try.func126 rfl [] _ _ (by kernel_rfl) rfl rfl rfl ?_
    (conv => whnf)
    split <;> rename_i hq
    · (conv => whnf)
      refine ⟨[0, 1, 2, 3, 4, 5, 6, 7, 8, 9, 10], [(2, [2]), (7, [2])], (by kernel_rfl), ?_⟩
      (conv => whnf)
      refine goIdx r.c (by omega) rfl rfl ?_
      (conv => whnf); refine goW (by first | omega | (dsimp only; omega)) (by first | omega | (dsimp only; omega)) ?_
      (conv => whnf)
      refine ⟨r1, by rw [hbl]; exact r2, ?_⟩
      rw [bytes_take]
      (conv => whnf); refine goP (cloneB_ok _ (by simp; omega)) ?_
      (conv => whnf); exact ret1 (by rfl) (by rfl) (by rfl)
    · simp at hq
theorem mouthAgain_ok (m : Mouth) (limit : Int) (hk : m.keep.length < 1000000000) (he : m.early.length < 1100000) :
    Pure 67 [m.v, int limit] (if m.ok = true ∧ 1 ≤ limit ∧ limit ≤ 12 then .tup [int m.heard, byts (m.keep.take (m.againN limit).toNat)] else .tup [int 0, byts []]) := by
  refine fn_of_vc tab_ok mixed Try.call67 Try.func67 rfl [] _ _ (by kernel_rfl) rfl rfl rfl ?_
  (conv => whnf); refine goP (mouthOk_ok m hk he) ?_
  (conv => whnf)
  cases hok : m.ok with
  | false =>
    (conv => whnf)
    rw [if_neg (by simp)]
    exact retG [] 0 (by rfl) (by rfl) (by rfl) (by rfl) (by rfl) (by rfl) rfl
  | true =>
    (conv => whnf); refine goP (in_ok _ _ _) ?_
    (conv => whnf)
    split <;> rename_i hq
    · (conv => whnf)
      rw [if_neg (by rintro ⟨_, h⟩; simp [inB] at hq; omega)]
      exact retG [] 0 (by rfl) (by rfl) (by rfl) (by rfl) (by rfl) (by rfl) rfl
    · have hl : 1 ≤ limit ∧ limit ≤ 12 := by simpa [inB] using hq
      rw [if_pos ⟨rfl, hl⟩]
      (conv => whnf)
      refine ⟨[0, 1, 2, 3, 4, 5, 6], [(1, [2]), (2, [2])], (by kernel_rfl), ?_⟩
      (conv => whnf)
      refine goP (again_ok m limit hok hl) ?_
      (conv => whnf)
      exact retG [] 0 (by rfl) (by rfl) (by rfl) (by rfl) (by rfl) (by rfl) rfl
theorem mouthAgain_ok' (m : Mouth) (limit : Int) (hk : m.keep.length < 1000000000) (he : m.early.length < 1100000) :
    Pure 68 [m.v, int limit] (if m.ok = true ∧ 1 ≤ limit ∧ limit ≤ 12 then .tup [int m.heard, byts (m.keep.take (m.againN limit).toNat)] else .tup [int 0, byts []]) := by
  refine fn_of_vc tab_ok mixed Try.call68 Try.func68 rfl [] _ _ (by kernel_rfl) rfl rfl rfl ?_
  (conv => whnf); refine goP (mouthOk_ok' m hk he) ?_
  (conv => whnf)
  cases hok : m.ok with
  | false =>
    (conv => whnf)
    rw [if_neg (by simp)]
    exact retG [] 0 (by rfl) (by rfl) (by rfl) (by rfl) (by rfl) (by rfl) rfl
  | true =>
    (conv => whnf); refine goP (l1In_ok _ _ _) ?_
    (conv => whnf)
    split <;> rename_i hq
    · (conv => whnf)
      rw [if_neg (by rintro ⟨_, h⟩; simp [inB] at hq; omega)]
      exact retG [] 0 (by rfl) (by rfl) (by rfl) (by rfl) (by rfl) (by rfl) rfl
    · have hl : 1 ≤ limit ∧ limit ≤ 12 := by simpa [inB] using hq
      rw [if_pos ⟨rfl, hl⟩]
      obtain ⟨r1, r2, r3, _, _⟩ := againN_r hok hl
      obtain ⟨b1, b2, b3, b4, b5⟩ := Mouth.ok_base hok
      have hbl := bytes_len m.keep
      obtain ⟨hd, kp, st, rm, er⟩ := m
      dsimp only at *
      cases er with
      | nil =>
        have hmi : mi st limit = Mouth.againN ⟨hd, kp, st, rm, []⟩ limit := mi_comm _ _
        (conv => whnf)
        refine ⟨[0, 1, 2, 3, 4, 5, 6, 7, 8, 9], [(1, [2]), (4, [2])], (by kernel_rfl), ?_⟩
        (conv => whnf)
        rw [show minList [limit] st = _ from hmi]
        refine ⟨r1, by rw [hbl]; exact r2, ?_⟩
        rw [bytes_take]
        (conv => whnf)
        refine ⟨by show (0 + (bytes _).length) * 1 ≤ 140737488355328; simp; omega, rfl, rfl, ?_⟩
        (conv => whnf)
        exact retG [] 0 (by rfl) (by rfl) (by rfl) (by rfl) (by rfl) (by rfl) rfl
      | cons r rs =>
        have h6 := Mouth.ok_at hok 0 (by simp)
        simp [rat] at h6
        have hmi : mi (mi st limit) (r.fr - hd) = Mouth.againN ⟨hd, kp, st, rm, r :: rs⟩ limit := by rw [mi_comm st limit]; rfl
        (conv => whnf)
        split <;> rename_i hq2
        · (conv => whnf)
          refine ⟨[0, 1, 2, 3, 4, 5, 6, 7, 8, 9, 10], [(2, [2]), (7, [2])], (by kernel_rfl), ?_⟩
          (conv => whnf)
          refine goIdx r.c (by omega) rfl rfl ?_
          (conv => whnf); refine goW (by first | omega | (dsimp only; omega)) (by first | omega | (dsimp only; omega)) ?_
          (conv => whnf)
          refine ⟨[0, 1, 2, 3, 4, 5, 6, 7, 8, 9], [(1, [2]), (4, [2])], (by kernel_rfl), ?_⟩
          (conv => whnf)
          rw [show minList [r.fr - hd] (minList [limit] st) = _ from hmi]
          refine ⟨r1, by rw [hbl]; exact r2, ?_⟩
          rw [bytes_take]
          (conv => whnf)
          refine ⟨by show (0 + (bytes _).length) * 1 ≤ 140737488355328; simp; omega, rfl, rfl, ?_⟩
          (conv => whnf)
          exact retG [] 0 (by rfl) (by rfl) (by rfl) (by rfl) (by rfl) (by rfl) rfl
        · simp at hq2
end Go.Proofs.Ytpeejmolbmhjjaa.Sx
end
