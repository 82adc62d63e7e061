/- What is read of an end or a watch among a law's arguments; there is no condition beyond those each statement names. -/
import Derived.Test.YtpeejmolbmhjjaaR1
import Derived.Test.YtpeejmolbmhjjaaF19
namespace Go.Proofs.Ytpeejmolbmhjjaa.Sx
set_option linter.unusedSimpArgs false
set_option linter.unusedVariables false
open Go Go.RowKit Go.ChangeShapes Go.WideShapes Go.ChangeAt Go.Deep
set_option maxRecDepth 100000
theorem o3 {c : Bool} : Op Try.prog c 3 (isInt .i64) := op_int Try.underlying3
theorem o4 {c : Bool} : Op Try.prog c 4 isBool := op_bool Try.underlying4
theorem o5 {c : Bool} : Op Try.prog c 5 (isInt .u8) := op_int Try.underlying5
theorem o22 : Op Try.prog true 22 (isLst 5 (isInt .u8)) := op_slice Try.underlying22 o5
theorem o189 : Op Try.prog false 189 (isTwo (isInt .i64) (isInt .i64)) := op_struct Try.underlying189 (opF_cons (sz := 1) o3 rfl (by kernel_rfl) (opF_one (sz := 1) o3 rfl (by kernel_rfl))) (by kernel_rfl)
theorem o206 : Op Try.prog false 206 (isTwo (isInt .i64) (isInt .u8)) := op_struct Try.underlying206 (opF_cons (sz := 1) o3 rfl (by kernel_rfl) (opF_one (sz := 1) o5 rfl (by kernel_rfl))) (by kernel_rfl)
theorem o72 : Op Try.prog true 72 (isTwo (isInt .i64) (isInt .i64)) := op_struct Try.underlying72 (opF_cons (sz := 1) o3 rfl (by kernel_rfl) (opF_one (sz := 1) o3 rfl (by kernel_rfl))) (by kernel_rfl)
theorem o60 : Op Try.prog true 60 (isLst 189 (isTwo (isInt .i64) (isInt .i64))) := op_slice Try.underlying60 o189
theorem o63 : Op Try.prog true 63 (isLst 206 (isTwo (isInt .i64) (isInt .u8))) := op_slice Try.underlying63 o206
def isMouth : List AV → Prop := isTwo (isInt .i64) (isTwo (isLst 5 (isInt .u8)) (isTwo (isInt .i64) (isTwo (isInt .i64) (isLst 189 (isTwo (isInt .i64) (isInt .i64))))))
theorem o62 : Op Try.prog true 62 isMouth :=
  op_struct Try.underlying62 (opF_cons (sz := 1) o3 rfl (by kernel_rfl) (opF_cons (sz := 1) o22 rfl (by kernel_rfl) (opF_cons (sz := 1) o3 rfl (by kernel_rfl) (opF_cons (sz := 1) o3 rfl (by kernel_rfl) (opF_one (sz := 1) o60 rfl (by kernel_rfl)))))) (by kernel_rfl)
def isEar : List AV → Prop := isTwo (isInt .i64) (isTwo (isInt .i64) (isTwo (isLst 5 (isInt .u8)) (isLst 206 (isTwo (isInt .i64) (isInt .u8)))))
theorem o65 : Op Try.prog true 65 isEar :=
  op_struct Try.underlying65 (opF_cons (sz := 1) o3 rfl (by kernel_rfl) (opF_cons (sz := 1) o3 rfl (by kernel_rfl) (opF_cons (sz := 1) o22 rfl (by kernel_rfl) (opF_one (sz := 1) o63 rfl (by kernel_rfl))))) (by kernel_rfl)
def isClock : List AV → Prop := isTwo (isInt .i64) (isTwo (isInt .i64) (isInt .i64))
theorem o66 : Op Try.prog true 66 isClock := op_struct Try.underlying66 (opF_cons (sz := 1) o3 rfl (by kernel_rfl) (opF_cons (sz := 1) o3 rfl (by kernel_rfl) (opF_one (sz := 1) o3 rfl (by kernel_rfl)))) (by kernel_rfl)
def isEnd : List AV → Prop :=
  isTwo (isInt .i64) (isTwo (isInt .i64) (isTwo (isInt .i64) (isTwo (isInt .i64) (isTwo (isInt .i64) (isTwo (isInt .i64) (isTwo isMouth (isTwo isEar (isTwo isBool (isTwo isBool (isTwo isBool (isTwo (isInt .i64) (isTwo (isInt .i64) (isTwo (isInt .i64) isClock)))))))))))))
theorem o68 : Op Try.prog true 68 isEnd :=
  op_struct Try.underlying68 (opF_cons (sz := 1) o3 rfl (by kernel_rfl) (opF_cons (sz := 1) o3 rfl (by kernel_rfl) (opF_cons (sz := 1) o3 rfl (by kernel_rfl) (opF_cons (sz := 1) o3 rfl (by kernel_rfl) (opF_cons (sz := 1) o3 rfl (by kernel_rfl) (opF_cons (sz := 1) o3 rfl (by kernel_rfl)
    (opF_cons (sz := 5) o62 rfl (by kernel_rfl) (opF_cons (sz := 4) o65 rfl (by kernel_rfl) (opF_cons (sz := 1) o4 rfl (by kernel_rfl) (opF_cons (sz := 1) o4 rfl (by kernel_rfl) (opF_cons (sz := 1) o4 rfl (by kernel_rfl) (opF_cons (sz := 1) o3 rfl (by kernel_rfl) (opF_cons (sz := 1) o3 rfl (by kernel_rfl) (opF_cons (sz := 1) o3 rfl (by kernel_rfl)
    (opF_one (sz := 3) o66 rfl (by kernel_rfl)))))))))))))))) (by kernel_rfl)
theorem bytes_of {av : List AV} (h : isLst 5 (isInt .u8) av) : ∃ l : List Int, av = [.lst 0 0 5 (bytes l)] ∧ l.length ≤ 9223372036854775807 := by
  obtain ⟨es, rfl, hl, hq⟩ := h
  obtain ⟨l, rfl, _⟩ := list_of (f := fun x : Int => [AV.i .u8 x]) (W := fun _ => True) (fun xs ⟨n, h, _⟩ => ⟨n, h, trivial⟩) es hq
  rw [List.length_map] at hl
  unfold maxLen at hl
  exact ⟨l, rfl, by omega⟩
theorem ranges_of {av : List AV} (h : isLst 189 (isTwo (isInt .i64) (isInt .i64)) av) : ∃ l : List Rng, av = [.lst 0 0 189 (l.map Rng.c)] ∧ l.length ≤ 9223372036854775807 := by
  obtain ⟨es, rfl, hl, hq⟩ := h
  obtain ⟨l, rfl, _⟩ := list_of (f := Rng.c) (W := fun _ => True) (fun xs h => by
    obtain ⟨_, _, rfl, ⟨a, rfl, _⟩, ⟨b, rfl, _⟩⟩ := h
    exact ⟨⟨a, b⟩, rfl, trivial⟩) es hq
  rw [List.length_map] at hl
  unfold maxLen at hl
  exact ⟨l, rfl, by omega⟩
theorem earlies_of {av : List AV} (h : isLst 206 (isTwo (isInt .i64) (isInt .u8)) av) : ∃ l : List Early, av = [.lst 0 0 206 (l.map Early.c)] ∧ l.length ≤ 9223372036854775807 := by
  obtain ⟨es, rfl, hl, hq⟩ := h
  obtain ⟨l, rfl, _⟩ := list_of (f := Early.c) (W := fun _ => True) (fun xs h => by
    obtain ⟨_, _, rfl, ⟨a, rfl, _⟩, ⟨b, rfl, _⟩⟩ := h
    exact ⟨⟨a, b⟩, rfl, trivial⟩) es hq
  rw [List.length_map] at hl
  unfold maxLen at hl
  exact ⟨l, rfl, by omega⟩
theorem mouth_of {av : List AV} (h : isMouth av) : ∃ e : Mouth, av = e.cL ∧ e.keep.length ≤ 9223372036854775807 ∧ e.early.length ≤ 9223372036854775807 := by
  obtain ⟨_, _, rfl, ⟨a, rfl, _⟩, _, _, rfl, hk, _, _, rfl, ⟨b, rfl, _⟩, _, _, rfl, ⟨c, rfl, _⟩, hr⟩ := h
  obtain ⟨k, rfl, h1⟩ := bytes_of hk
  obtain ⟨r, rfl, h2⟩ := ranges_of hr
  exact ⟨⟨a, k, b, c, r⟩, rfl, h1, h2⟩
theorem ear_of {av : List AV} (h : isEar av) : ∃ e : Ear, av = e.cL ∧ e.got.length ≤ 9223372036854775807 ∧ e.far.length ≤ 9223372036854775807 := by
  obtain ⟨_, _, rfl, ⟨a, rfl, _⟩, _, _, rfl, ⟨b, rfl, _⟩, _, _, rfl, hk, hr⟩ := h
  obtain ⟨k, rfl, h1⟩ := bytes_of hk
  obtain ⟨r, rfl, h2⟩ := earlies_of hr
  exact ⟨⟨a, b, k, r⟩, rfl, h1, h2⟩
theorem clock_of {av : List AV} (h : isClock av) : ∃ e : Clock, av = e.c := by
  obtain ⟨_, _, rfl, ⟨a, rfl, _⟩, _, _, rfl, ⟨b, rfl, _⟩, ⟨c, rfl, _⟩⟩ := h
  exact ⟨⟨a, b, c⟩, rfl⟩
theorem end_of {av : List AV} (h : isEnd av) : ∃ e : End, av = e.cL ∧ e.fits := by
  obtain ⟨_, _, rfl, ⟨a1, rfl, _⟩, _, _, rfl, ⟨a2, rfl, _⟩, _, _, rfl, ⟨a3, rfl, _⟩, _, _, rfl, ⟨a4, rfl, _⟩, _, _, rfl, ⟨a5, rfl, _⟩, _, _, rfl, ⟨a6, rfl, _⟩, _, _, rfl, hm, _, _, rfl, he,
    _, _, rfl, ⟨b1, rfl⟩, _, _, rfl, ⟨b2, rfl⟩, _, _, rfl, ⟨b3, rfl⟩, _, _, rfl, ⟨a7, rfl, _⟩, _, _, rfl, ⟨a8, rfl, _⟩, _, _, rfl, ⟨a9, rfl, _⟩, hc⟩ := h
  obtain ⟨m, rfl, m1, m2⟩ := mouth_of hm
  obtain ⟨r, rfl, r1, r2⟩ := ear_of he
  obtain ⟨c, rfl⟩ := clock_of hc
  exact ⟨⟨a1, a2, a3, a4, a5, a6, m, r, b1, b2, b3, a7, a8, a9, c⟩, rfl, ⟨m1, m2, r1, r2⟩⟩
theorem watch_of {av : List AV} (h : isTwo (isInt .i64) (isInt .i64) av) : ∃ e : Watch, av = e.c := by
  obtain ⟨_, _, rfl, ⟨a, rfl, _⟩, ⟨b, rfl, _⟩⟩ := h
  exact ⟨⟨a, b⟩, rfl⟩
theorem struct_arg {t : TypeId} {Q : List AV → Prop} {fs : Array Field} (ht : Try.prog.underlying t = some (.struct fs)) (ho : Op Try.prog true t Q) {H : Type} {enc : TypeId × Value → H} {W : World} {r : Reach} {base base' : Nat} {spare : Nat → Bool} {held : Bool} {v : Value} {x : DataW H × List MemPlace}
    (ok : Value.okWide Try.prog W r base' t v) (h : ∃ fuel, DataW.trod enc Try.prog W base spare held fuel t v.cells.toList = some x) :
    ∃ av, Q av ∧ RepP (Rep Try.prog (fun _ _ => False) id (fun _ => false) W) (true, av) v := by
  simp only [Value.okWide, ht] at ok
  obtain ⟨cs, rfl, _, hrow⟩ := ok
  obtain ⟨fuel, hf⟩ := h
  obtain ⟨av, h1, _, h2⟩ := ho _ _ _ _ _ _ _ _ _ hf (fun _ a len cap hm => spot_of_okWide hrow a len cap hm)
  exact ⟨av, h2, RepP.agg (h1 _ _)⟩
end Go.Proofs.Ytpeejmolbmhjjaa.Sx
