/- Ends, ears, mouths and clocks as plain values, and what the smallest functions come to; there is no condition beyond those each statement names. -/
import Derived.Test.YtpeejmolbmhjjaaTabY
namespace Go.Proofs.Ytpeejmolbmhjjaa.Sx
set_option linter.unusedSimpArgs false
set_option linter.unusedVariables false
open Go
abbrev int (n : Int) : PV := (false, [.i .i64 n])
abbrev bool (b : Bool) : PV := (false, [.b b])
/-- A function without boxes that comes to this. -/
def Pure (f : FuncId) (args : List PV) (res : TV) : Prop := FnM Try.prog f [] args fun o => o = { res := res }
theorem goP {f : FuncId} {args : List PV} {res : TV} {M : Nat → Option (List AV)} {ok : Nat → Bool} {K : List (Nat × List AV) → Out → Prop} (h : Pure f args res) (hk : K [] { res := res }) :
    ∃ (m : List (Nat × List AV)) (R : Out → Prop), FnM Try.prog f m args R ∧ memIs M ok m ∧ ∀ o, R o → (o.tk.all fun x => Nat.ble 2 x.1 && Nat.blt x.1 9) = true → K m o :=
  ⟨[], _, h, trivial, fun o ho _ => by subst ho; exact hk⟩
theorem outB {a b : Bool} (h : a = b) : ({ res := .pv (false, [.b a]) } : Out) = { res := .pv (bool b) } := by rw [h]
theorem outI {a b : Int} (h : a = b) : ({ res := .pv (false, [.i .i64 a]) } : Out) = { res := .pv (int b) } := by rw [h]
theorem w64 (n : Int) (h1 : -9223372036854775808 ≤ n) (h2 : n < 9223372036854775808) : IntKind.i64.wrap n = n := by
  unfold IntKind.wrap
  simp only [IntKind.bits, IntKind.signed]
  simp
  omega
theorem goIdx {n : Int} {es : List (List AV)} {c : Bool} {K : List AV → Prop} (cs : List AV) (h0 : 0 ≤ n) (hc : c = true) (h : es[n.toNat]? = some cs) (hk : K cs) :
    0 ≤ n ∧ bif c then ∃ cs, es[n.toNat]? = some cs ∧ K cs else False := ⟨h0, by rw [hc]; exact ⟨cs, h, hk⟩⟩
theorem goW {n : Int} {K : Int → Prop} (h1 : -9223372036854775808 ≤ n) (h2 : n < 9223372036854775808) (hk : K n) : ∃ r, IntKind.i64.wrap n = r ∧ K r := ⟨n, w64 n h1 h2, hk⟩
def bytes (l : List Int) : List (List AV) := l.map fun x => [.i .u8 x]
structure Early where
  pl : Int
  b : Int
structure Ear where
  next : Int
  room : Int
  got : List Int
  far : List Early
structure Rng where
  fr : Int
  to : Int
structure Mouth where
  heard : Int
  keep : List Int
  sent : Int
  room : Int
  early : List Rng
structure Clock where
  mean : Int
  far : Int
  wait : Int
structure End where
  state : Int
  addr : Int
  n : Int
  peerAddr : Int
  peerN : Int
  base : Int
  out : Mouth
  inn : Ear
  closed : Bool
  lastTold : Bool
  lastHeard : Bool
  peerLast : Int
  due : Int
  tries : Int
  pulse : Clock
def Early.c (e : Early) : List AV := [.i .i64 e.pl, .i .u8 e.b]
def Rng.c (e : Rng) : List AV := [.i .i64 e.fr, .i .i64 e.to]
def Ear.c (e : Ear) : List AV := [.i .i64 e.next, .i .i64 e.room, .lst 0 0 5 (bytes e.got), .lst 0 0 138 (e.far.map Early.c)]
def Mouth.c (e : Mouth) : List AV := [.i .i64 e.heard, .lst 0 0 5 (bytes e.keep), .i .i64 e.sent, .i .i64 e.room, .lst 0 0 108 (e.early.map Rng.c)]
def Clock.c (e : Clock) : List AV := [.i .i64 e.mean, .i .i64 e.far, .i .i64 e.wait]
def End.c (e : End) : List AV := [.i .i64 e.state, .i .i64 e.addr, .i .i64 e.n, .i .i64 e.peerAddr, .i .i64 e.peerN, .i .i64 e.base,
  .i .i64 e.out.heard, .lst 0 0 5 (bytes e.out.keep), .i .i64 e.out.sent, .i .i64 e.out.room, .lst 0 0 108 (e.out.early.map Rng.c),
  .i .i64 e.inn.next, .i .i64 e.inn.room, .lst 0 0 5 (bytes e.inn.got), .lst 0 0 138 (e.inn.far.map Early.c),
  .b e.closed, .b e.lastTold, .b e.lastHeard, .i .i64 e.peerLast, .i .i64 e.due, .i .i64 e.tries, .i .i64 e.pulse.mean, .i .i64 e.pulse.far, .i .i64 e.pulse.wait]
abbrev Early.v (e : Early) : PV := (true, e.c)
abbrev Rng.v (e : Rng) : PV := (true, e.c)
abbrev Ear.v (e : Ear) : PV := (true, e.c)
abbrev Mouth.v (e : Mouth) : PV := (true, e.c)
abbrev Clock.v (e : Clock) : PV := (true, e.c)
abbrev End.v (e : End) : PV := (true, e.c)
@[simp] theorem bytes_len (l : List Int) : (bytes l).length = l.length := by simp [bytes]
def inB (n lo hi : Int) : Bool := decide (lo ≤ n) && decide (n ≤ hi)
set_option maxRecDepth 100000
theorem l1In_ok (n lo hi : Int) : Pure 108 [int n, int lo, int hi] (.pv (bool (inB n lo hi))) := by
  refine fn_of_vc tab_ok mixed Try.call108 Try.func108 rfl [] _ _ (by kernel_rfl) rfl rfl rfl ?_
  (conv => whnf); split
  · (conv => whnf); refine ret1 (by rfl) (by rfl) (outB ?_); first | rfl | (simp_all [inB]; done) | (simp_all [inB]; omega)
  · (conv => whnf); refine ret1 (by rfl) (by rfl) (outB ?_); first | rfl | (simp_all [inB]; done) | (simp_all [inB]; omega)
theorem in_ok (n lo hi : Int) : Pure 83 [int n, int lo, int hi] (.pv (bool (inB n lo hi))) := by
  refine fn_of_vc tab_ok mixed Try.call83 Try.func83 rfl [] _ _ (by kernel_rfl) rfl rfl rfl ?_
  (conv => whnf); split
  · (conv => whnf); refine ret1 (by rfl) (by rfl) (outB ?_); first | rfl | (simp_all [inB]; done) | (simp_all [inB]; omega)
  · (conv => whnf); refine ret1 (by rfl) (by rfl) (outB ?_); first | rfl | (simp_all [inB]; done) | (simp_all [inB]; omega)
theorem bit_ok (b : Bool) (n : Int) : Pure 84 [bool b, int n] (.pv (int (if b then n else 0))) := by
  refine fn_of_vc tab_ok mixed Try.call84 Try.func84 rfl [] _ _ (by kernel_rfl) rfl rfl rfl ?_
  (conv => whnf); split
  · (conv => whnf); refine ret1 (by rfl) (by rfl) (outI ?_); first | rfl | (simp_all []; done) | (simp_all []; omega)
  · (conv => whnf); refine ret1 (by rfl) (by rfl) (outI ?_); first | rfl | (simp_all []; done) | (simp_all []; omega)
theorem word_ok (n : Int) : Pure 91 [int n] (.pv (bool (inB n 0 65535))) := by
  refine fn_of_vc tab_ok mixed Try.call91 Try.func91 rfl [] _ _ (by kernel_rfl) rfl rfl rfl ?_
  (conv => whnf); refine goP (in_ok _ _ _) ?_
  (conv => whnf); exact ret1 (by rfl) (by rfl) (by rfl)
theorem portOk_ok (n : Int) : Pure 92 [int n] (.pv (bool (inB n 1 255))) := by
  refine fn_of_vc tab_ok mixed Try.call92 Try.func92 rfl [] _ _ (by kernel_rfl) rfl rfl rfl ?_
  (conv => whnf); refine goP (in_ok _ _ _) ?_
  (conv => whnf); exact ret1 (by rfl) (by rfl) (by rfl)
theorem clockNew_ok (n : Int) : Pure 93 [int n] (.pv (Clock.v ⟨0, 0, 24⟩)) := by
  refine fn_of_vc tab_ok mixed Try.call93 Try.func93 rfl [] _ _ (by kernel_rfl) rfl rfl rfl ?_
  (conv => whnf); exact ret1 (by rfl) (by rfl) (by rfl)
theorem clockNew_ok' (n : Int) : Pure 96 [int n] (.pv (Clock.v ⟨0, 0, 24⟩)) := by
  refine fn_of_vc tab_ok mixed Try.call96 Try.func96 rfl [] _ _ (by kernel_rfl) rfl rfl rfl ?_
  (conv => whnf); exact ret1 (by rfl) (by rfl) (by rfl)
def Clock.ok (c : Clock) : Bool := inB c.mean 0 80000 && inB c.far 0 80000 && inB c.wait 4 200
theorem clockOk_ok (c : Clock) : Pure 98 [c.v] (.pv (bool c.ok)) := by
  refine fn_of_vc tab_ok mixed Try.call98 Try.func98 rfl [] _ _ (by kernel_rfl) rfl rfl rfl ?_
  (conv => whnf); refine goP (in_ok _ _ _) ?_
  (conv => whnf); split
  · (conv => whnf); refine goP (in_ok _ _ _) ?_
    (conv => whnf); split
    · (conv => whnf); refine goP (in_ok _ _ _) ?_
      (conv => whnf); refine ret1 (by rfl) (by rfl) (outB ?_); first | rfl | (simp_all [Clock.ok]; done) | (simp_all [Clock.ok]; omega)
    · (conv => whnf); refine ret1 (by rfl) (by rfl) (outB ?_); first | rfl | (simp_all [Clock.ok]; done) | (simp_all [Clock.ok]; omega)
  · (conv => whnf); refine ret1 (by rfl) (by rfl) (outB ?_); first | rfl | (simp_all [Clock.ok]; done) | (simp_all [Clock.ok]; omega)
theorem clockOk_ok' (c : Clock) : Pure 111 [c.v] (.pv (bool c.ok)) := by
  refine fn_of_vc tab_ok mixed Try.call111 Try.func111 rfl [] _ _ (by kernel_rfl) rfl rfl rfl ?_
  (conv => whnf); refine goP (l1In_ok _ _ _) ?_
  (conv => whnf); split
  · (conv => whnf); refine goP (l1In_ok _ _ _) ?_
    (conv => whnf); split
    · (conv => whnf); refine goP (l1In_ok _ _ _) ?_
      (conv => whnf); refine ret1 (by rfl) (by rfl) (outB ?_); first | rfl | (simp_all [Clock.ok]; done) | (simp_all [Clock.ok]; omega)
    · (conv => whnf); refine ret1 (by rfl) (by rfl) (outB ?_); first | rfl | (simp_all [Clock.ok]; done) | (simp_all [Clock.ok]; omega)
  · (conv => whnf); refine ret1 (by rfl) (by rfl) (outB ?_); first | rfl | (simp_all [Clock.ok]; done) | (simp_all [Clock.ok]; omega)
theorem free_ok (e : Ear) (h : -9000000000000000000 ≤ e.room) (h2 : e.room < 9000000000000000000) (hl : e.got.length < 1000000000) : Pure 101 [e.v] (.pv (int (e.room - e.got.length))) := by
  refine fn_of_vc tab_ok mixed Try.call101 Try.func101 rfl [] _ _ (by kernel_rfl) rfl rfl rfl ?_
  (conv => whnf); refine ⟨_, w64 _ (by simp; omega) (by simp; omega), ?_⟩
  (conv => whnf); refine ret1 (by rfl) (by rfl) (outI ?_); first | rfl | (simp_all []; done) | (simp_all []; omega)
end Go.Proofs.Ytpeejmolbmhjjaa.Sx
