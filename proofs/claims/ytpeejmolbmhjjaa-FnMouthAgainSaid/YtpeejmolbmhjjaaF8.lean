/- What the drawing reader's small functions come to; there is no condition beyond those each statement names. -/
import Derived.Test.YtpeejmolbmhjjaaF7
namespace Go.Proofs.Ytpeejmolbmhjjaa.Sx
set_option linter.unusedSimpArgs false
set_option linter.unusedVariables false
open Go
set_option maxRecDepth 100000
set_option maxHeartbeats 0
section
variable {T : TT}
def resOf (ex : List (Nat × Nat)) (nb : Nat) : List PV → TV
  | [p] => .pv (renP ex nb p)
  | ps => .tup (ps.map (renP ex nb))
def nbOf (m : Nat → Option (List AV)) (ks : List Nat) : Nat → Option (Option (List AV))
  | 0 => some none
  | nb + 1 => match m (nb + 1) with
    | some cs => bif (stripV cs).all AV.clean && !mem? ks (nb + 1) then some (some (stripV cs)) else none
    | none => none
theorem resOf_eq (ex : List (Nat × Nat)) (nb : Nat) (ps : List PV) : resOf ex nb ps = (match ps with | [p] => TV.pv (renP ex nb p) | _ => TV.tup (ps.map (renP ex nb))) := by
  cases ps with
  | nil => rfl
  | cons p r => cases r <;> rfl
theorem retG {rs : List ResultVar} {ks : List Nat} {R : Out → Prop} {s : St} {ps : List PV} {ms : List (List AV)} {nbc : Option (List AV)} (ex : List (Nat × Nat)) (nb : Nat)
    (h : resVs T s rs = some ps) (h1 : exOk s.fs.cur ex = true) (h2 : (ps.all fun p => p.2.all (resA ks nb)) = true) (h3 : memOf s.fs.mem ks = some ms) (h4 : (ms.all fun cs => cs.all AV.clean) = true)
    (h5 : nbOf s.fs.mem ks nb = some nbc)
    (hR : R { tk := tkOf s.fs.cur ex, mem := ms, nb := nbc, res := resOf ex nb ps }) : Hold (atRet T rs ks R s) := by
  refine ⟨.inl ?_⟩
  unfold atRetG
  rw [h]
  refine ⟨ex, nb, h1, h2, ?_⟩
  rw [h3]
  refine ⟨h4, ?_⟩
  rw [resOf_eq] at hR
  cases nb with
  | zero => cases h5; exact hR
  | succ nb =>
    cases hm : s.fs.mem (nb + 1) with
    | none => simp only [nbOf, hm] at h5; cases h5
    | some cs =>
      simp only [nbOf, hm] at h5
      cases hb : ((stripV cs).all AV.clean && !mem? ks (nb + 1)) with
      | false => rw [hb] at h5; cases h5
      | true =>
        rw [hb] at h5
        cases h5
        simp only [Nat.beq, hb]
        exact hR
end
/-- The reader's cells: the bytes and how far it is. -/
def rd (l : List Int) (p : Int) : List AV := [.lst 0 0 5 (bytes l), .i .i64 p]
/-- A draw: from 0 up to n. -/
def drawn (n v : Int) : Prop := 0 ≤ v ∧ (1 ≤ n → v < n) ∧ (n < 1 → v = 0)
def okB (l : List Int) : Prop := l.length ≤ 2000 ∧ ∀ x ∈ l, 0 ≤ x ∧ x ≤ 255
def Reads (f : FuncId) (l : List Int) (p : Int) (args : List PV) (R : Int → PV → Prop) : Prop :=
  FnM Try.prog f [(1000, rd l p)] ((false, [.ptr 1000 0]) :: args) fun o => ∃ p' v, R p' v ∧ o = { mem := [rd l p'], res := .pv v }
def bat (l : List Int) (k : Nat) : Int := l.getD k 0
theorem bytes_get {l : List Int} {k : Nat} (h : k < l.length) : (bytes l)[k]? = some [.i .u8 (bat l k)] := by
  simp [bytes, List.getElem?_map, bat, List.getD, List.getElem?_eq_getElem h]
theorem bat_r {l : List Int} (h : okB l) (k : Nat) : 0 ≤ bat l k ∧ bat l k ≤ 255 := by
  unfold bat List.getD
  cases hq : l[k]? with
  | none => simp
  | some x => exact h.2 x (List.mem_of_getElem? hq)
theorem goB {n : Int} {l : List Int} {c : Bool} {K : List AV → Prop} (h0 : 0 ≤ n) (h1 : n < l.length) (hc : c = true) (hk : K [.i .u8 (bat l n.toNat)]) :
    0 ≤ n ∧ bif c then ∃ cs, (bytes l)[n.toNat]? = some cs ∧ K cs else False := goIdx _ h0 hc (bytes_get (by omega)) hk
theorem goBx {n : Int} {l : List Int} {c : Bool} {K : List AV → Prop} (hl : okB l) (h0 : 0 ≤ n) (h1 : n < l.length) (hc : c = true) (hk : ∀ x, 0 ≤ x → x ≤ 255 → K [.i .u8 x]) :
    0 ≤ n ∧ bif c then ∃ cs, (bytes l)[n.toNat]? = some cs ∧ K cs else False := goB h0 h1 hc (hk _ (bat_r hl _).1 (bat_r hl _).2)
theorem goRem {a b : Int} {K : Int → Prop} (h : 0 ≤ a) (h1 : 0 < b) (hk : ∀ r, 0 ≤ r → r < b → K r) : b ≠ 0 ∧ ∃ r, a.tmod b = r ∧ K r :=
  ⟨by omega, _, rfl, hk _ (Int.tmod_nonneg _ h) (Int.tmod_lt_of_pos _ h1)⟩
theorem goQuo {a b : Int} {K : Int → Prop} (h : 0 ≤ a) (h1 : 0 < b) (h2 : a < 9223372036854775808) (hk : ∀ r, 0 ≤ r → r ≤ a → K r) : b ≠ 0 ∧ ∃ r, IntKind.i64.wrap (a.tdiv b) = r ∧ K r := by
  have e : a.tdiv b = a / b := Int.tdiv_eq_ediv_of_nonneg h
  have h3 : 0 ≤ a / b := Int.ediv_nonneg h (by omega)
  have h4 : a / b ≤ a := Int.ediv_le_self b h
  exact ⟨by omega, _, by rw [e]; exact w64 _ (by omega) (by omega), hk _ h3 h4⟩
theorem ofInt_nat {a : Int} (h : 0 ≤ a) (h2 : a < 9223372036854775808) : (BitVec.ofInt IntKind.i64.bits a).toNat = a.toNat := by
  show (BitVec.ofInt 64 a).toNat = a.toNat
  rw [BitVec.toNat_ofInt]
  congr 1
  exact Int.emod_eq_of_lt h (by omega)
theorem goXor {a b : Int} {K : Int → Prop} (h : 0 ≤ a) (h1 : a < 9223372036854775808) (h2 : 0 ≤ b) (h3 : b < 9223372036854775808) (hk : ∀ r, 0 ≤ r → r < 9223372036854775808 → K r) :
    ∃ r, IntKind.i64.wrap ((BitVec.ofInt IntKind.i64.bits a ^^^ BitVec.ofInt IntKind.i64.bits b).toNat : Nat) = r ∧ K r := by
  have e : (BitVec.ofInt IntKind.i64.bits a ^^^ BitVec.ofInt IntKind.i64.bits b).toNat < 9223372036854775808 := by
    rw [BitVec.toNat_xor, ofInt_nat h h1, ofInt_nat h2 h3]
    exact Nat.xor_lt_two_pow (n := 63) (by omega) (by omega)
  exact ⟨_, w64 _ (by omega) (by omega), hk _ (by omega) (by omega)⟩
theorem pick_ok {l : List Int} (hl : okB l) (p : Int) (hp : 0 ≤ p ∧ p < 1000000000000) (n : Int) (hn : n ≤ 1000000000000) : Reads 88 l p [int n] fun p' v => p' = p + 1 ∧ ∃ i, drawn n i ∧ v = int i := by
  refine fn_of_vc tab_ok mixed Try.call88 Try.func88 rfl [(1000, rd l p)] _ _ (by kernel_rfl) rfl rfl rfl ?_
  (conv => whnf)
  refine goW (by omega) (by omega) ?_; (conv => whnf)
  (conv => whnf); split <;> rename_i hq
  · (conv => whnf)
    refine retG [] 0 (by rfl) (by rfl) (by rfl) (by rfl) (by rfl) (by rfl) ⟨p + 1, int 0, ⟨rfl, 0, ⟨by omega, fun h => by simp at hq; omega, fun _ => rfl⟩, rfl⟩, rfl⟩
  (conv => whnf); split <;> rename_i hq2
  · (conv => whnf)
    refine retG [] 0 (by rfl) (by rfl) (by rfl) (by rfl) (by rfl) (by rfl) ⟨p + 1, int 0, ⟨rfl, 0, ⟨by omega, fun h => by simp at hq; omega, fun _ => rfl⟩, rfl⟩, rfl⟩
  have hbl := bytes_len l
  have hqn : 1 ≤ n := by simp at hq; omega
  (conv => whnf)
  refine goW (by omega) (by omega) ?_; (conv => whnf)
  (conv => whnf); split <;> rename_i hq3
  · have hlt : p + 1 - 1 < l.length := by simpa using hq3
    (conv => whnf)
    repeat' ((conv => whnf); first
        | (refine goBx hl (by omega) (by omega) rfl fun x hx1 hx2 => ?_)
        | (refine goRem (by omega) (by omega) fun r hr1 hr2 => ?_)
        | (refine goXor (by omega) (by omega) (by omega) (by omega) fun r hr1 hr2 => ?_)
        | (refine retG [] 0 (by rfl) (by rfl) (by rfl) (by rfl) (by rfl) (by rfl) ⟨p + 1, int _, ⟨rfl, _, ⟨by omega, fun h => by omega, fun _ => by omega⟩, rfl⟩, rfl⟩)
        | (split <;> rename_i hq <;> (try simp only [Bool.not_eq_eq_eq_not, Bool.not_true, Bool.not_false, decide_eq_true_eq, decide_eq_false_iff_not, inB_t, inB_f, bytes_len, List.length_map, Bool.and_eq_true, Bool.and_eq_false_iff, and_true] at hq) <;> (try (exfalso; first | omega | (simp_all; done))))
        | (refine goW (by first | omega | (simp; omega)) (by first | omega | (simp; omega)) ?_)
        | (refine ret1 (by rfl) (by rfl) (outB ?_); first | rfl | grind [inB])
        | (refine ret1 (by rfl) (by rfl) (outI ?_); first | rfl | omega | grind [inB])
        | (refine ret1 (by rfl) (by rfl) (outB ?_)) | (refine ret1 (by rfl) (by rfl) (outI ?_)))
  (conv => whnf)
  have hl0 : 0 < l.length := by simp only [decide_eq_false_iff_not] at hq2; omega
  have hl1 := hl.1
  refine ⟨[0, 1, 2, 3, 4, 5, 6, 7, 8, 9, 10, 11, 12, 13, 14, 15, 16, 17, 18, 19, 20, 21, 22, 23, 24, 25, 26, 27, 28, 29, 30, 31, 32, 33, 34, 35, 36, 37, 38, 39, 40, 41, 42, 43, 44, 45], [(3, [1000]), (8, [1000]), (18, [1000]), (25, [1000]), (40, [1000])], (by kernel_rfl), ?_⟩
  (conv => whnf)
  repeat' ((conv => whnf); first
      | (refine goBx hl (by omega) (by omega) rfl fun x hx1 hx2 => ?_)
      | (refine goRem (by omega) (by omega) fun r hr1 hr2 => ?_)
      | (refine goQuo (by omega) (by omega) (by omega) fun r hr1 hr2 => ?_)
      | (refine goXor (by omega) (by omega) (by omega) (by omega) fun r hr1 hr2 => ?_)
      | (refine retG [] 0 (by rfl) (by rfl) (by rfl) (by rfl) (by rfl) (by rfl) ⟨p + 1, int _, ⟨rfl, _, ⟨by omega, fun h => by omega, fun _ => by omega⟩, rfl⟩, rfl⟩)
      | (split <;> rename_i hq <;> (try simp only [Bool.not_eq_eq_eq_not, Bool.not_true, Bool.not_false, decide_eq_true_eq, decide_eq_false_iff_not, inB_t, inB_f, bytes_len, List.length_map, Bool.and_eq_true, Bool.and_eq_false_iff, and_true] at hq) <;> (try (exfalso; first | omega | (simp_all; done))))
      | (refine goW (by first | omega | (simp; omega)) (by first | omega | (simp; omega)) ?_)
      | (refine ret1 (by rfl) (by rfl) (outB ?_); first | rfl | grind [inB])
      | (refine ret1 (by rfl) (by rfl) (outI ?_); first | rfl | omega | grind [inB])
      | (refine ret1 (by rfl) (by rfl) (outB ?_)) | (refine ret1 (by rfl) (by rfl) (outI ?_)))
end Go.Proofs.Ytpeejmolbmhjjaa.Sx
