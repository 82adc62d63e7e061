/- The drawing reader's openings and words; there is no condition beyond those each statement names. -/
import Derived.Test.YtpeejmolbmhjjaaF9
namespace Go.Proofs.Ytpeejmolbmhjjaa.Sx
set_option linter.unusedSimpArgs false
set_option linter.unusedVariables false
open Go
set_option maxRecDepth 100000
set_option maxHeartbeats 0
theorem goRd {f : FuncId} {b : Nat} {l : List Int} {p : Int} {args : List PV} {R : Int → PV → Prop} {M : Nat → Option (List AV)} {ok : Nat → Bool} {K : List (Nat × List AV) → Out → Prop} (h : Reads f l p args R) (ha : args.all PV.nop = true)
    (hr : ∀ p' v, R p' v → PV.nop v = true) (hm : memIs M ok [(b, rd l p)]) (hk : ∀ p' v, R p' v → K [(b, rd l p)] { mem := [rd l p'], res := .pv v }) :
    ∃ (m : List (Nat × List AV)) (R : Out → Prop), FnM Try.prog f m ((false, [.ptr b 0]) :: args) R ∧ memIs M ok m ∧ ∀ o, R o → (o.tk.all fun x => Nat.ble 2 x.1 && Nat.blt x.1 9) = true → K m o :=
  ⟨[(b, rd l p)], _, h.ren (by decide) rfl ha (by rintro o ⟨p', v, h1, rfl⟩; exact hr p' v h1) b, hm, fun o ho _ => by obtain ⟨p', v, h1, rfl⟩ := ho; exact hk p' v h1⟩
theorem goPick {b : Nat} {l : List Int} {p n : Int} {M : Nat → Option (List AV)} {ok : Nat → Bool} {K : List (Nat × List AV) → Out → Prop} (hl : okB l) (hm : memIs M ok [(b, rd l p)]) (hp : 0 ≤ p ∧ p < 1000000000000) (hn : n ≤ 1000000000000)
    (hk : ∀ i, 0 ≤ i → (n < 1 ∧ i = 0 ∨ 1 ≤ n ∧ i < n) → K [(b, rd l p)] { mem := [rd l (p + 1)], res := .pv (int i) }) :
    ∃ (m : List (Nat × List AV)) (R : Out → Prop), FnM Try.prog 88 m [(false, [.ptr b 0]), int n] R ∧ memIs M ok m ∧ ∀ o, R o → (o.tk.all fun x => Nat.ble 2 x.1 && Nat.blt x.1 9) = true → K m o :=
  goRd (pick_ok hl p hp n hn) rfl (by rintro p' v ⟨_, i, _, rfl⟩; rfl) hm (by rintro p' v ⟨rfl, i, hi, rfl⟩; exact hk i hi.1 ((Int.lt_or_le n 1).elim (fun h => .inl ⟨h, hi.2.2 h⟩) fun h => .inr ⟨h, hi.2.1 h⟩))
theorem word_r {l : List Int} (hl : okB l) (p : Int) (hp : 0 ≤ p ∧ p < 900000000000) : Reads 90 l p [] fun p' v => (p ≤ p' ∧ p' ≤ p + 3) ∧ ∃ i, (0 ≤ i ∧ i ≤ 65535) ∧ v = int i := by
  refine fn_of_vc tab_ok mixed Try.call90 Try.func90 rfl [(1000, rd l p)] _ _ (by kernel_rfl) rfl rfl rfl ?_
  (conv => whnf)
  repeat' ((conv => whnf); first
      | (refine goPick hl (by exact ⟨⟨rfl, rfl⟩, trivial⟩) (by omega) (by omega) fun i hi1 hi2 => ?_)
      | (refine retG [] 0 (by rfl) (by rfl) (by rfl) (by rfl) (by rfl) (by rfl) ⟨_, int _, ⟨?_, _, ?_, rfl⟩, rfl⟩ <;> omega)
      | (split <;> rename_i hq <;> (try simp only [Bool.not_eq_eq_eq_not, Bool.not_true, Bool.not_false, decide_eq_true_eq, decide_eq_false_iff_not, inB_t, inB_f, bytes_len, List.length_map, Bool.and_eq_true, Bool.and_eq_false_iff, and_true] at hq) <;> (try (exfalso; first | omega | (simp_all; done))))
      | (refine goW (by first | omega | (simp; omega)) (by first | omega | (simp; omega)) ?_)
      | (refine ret1 (by rfl) (by rfl) (outB ?_); first | rfl | grind [inB])
      | (refine ret1 (by rfl) (by rfl) (outI ?_); first | rfl | omega | grind [inB])
      | (refine ret1 (by rfl) (by rfl) (outB ?_)) | (refine ret1 (by rfl) (by rfl) (outI ?_)))
theorem goWord {b : Nat} {l : List Int} {p : Int} {M : Nat → Option (List AV)} {ok : Nat → Bool} {K : List (Nat × List AV) → Out → Prop} (hl : okB l) (hm : memIs M ok [(b, rd l p)]) (hp : 0 ≤ p ∧ p < 900000000000)
    (hk : ∀ p' i, p ≤ p' → p' ≤ p + 3 → 0 ≤ i → i ≤ 65535 → K [(b, rd l p)] { mem := [rd l p'], res := .pv (int i) }) :
    ∃ (m : List (Nat × List AV)) (R : Out → Prop), FnM Try.prog 90 m [(false, [.ptr b 0])] R ∧ memIs M ok m ∧ ∀ o, R o → (o.tk.all fun x => Nat.ble 2 x.1 && Nat.blt x.1 9) = true → K m o :=
  goRd (word_r hl p hp) rfl (by rintro p' v ⟨_, i, _, rfl⟩; rfl) hm (by rintro p' v ⟨⟨h1, h2⟩, i, hi, rfl⟩; exact hk p' i h1 h2 hi.1 hi.2)
theorem open_r {l : List Int} (hl : l.length ≤ 1048576) (h2 : ∀ x ∈ l, 0 ≤ x ∧ x ≤ 255) : FnM Try.prog 78 [] [(false, [.lst 0 0 5 (bytes l)])] fun o => ∃ l', okB l' ∧ o = { nb := some (rd l' 0), res := .one (.ptr 0 0) } := by
  refine fn_of_vc tab_ok mixed Try.call78 Try.func78 rfl [] _ _ (by kernel_rfl) rfl rfl rfl ?_
  (conv => whnf); split <;> rename_i hq
  · (conv => whnf)
    refine ⟨by omega, by simp at hq; simp; omega, ?_⟩
    (conv => whnf)
    refine retG [] 10 (by rfl) (by rfl) (by rfl) (by rfl) (by rfl) (by rfl) ⟨l.take 2000, ⟨by simp; omega, fun x hx => h2 x (List.mem_of_mem_take hx)⟩, ?_⟩
    show ({ nb := some [AV.lst 0 0 5 ((bytes l).take 2000), .i .i64 0], res := .one (.ptr 0 0) } : Out) = _
    simp only [rd, bytes, List.map_take]
  · (conv => whnf)
    refine retG [] 10 (by rfl) (by rfl) (by rfl) (by rfl) (by rfl) (by rfl) ⟨l, ⟨by simp at hq; omega, h2⟩, rfl⟩
/-- The drawn numbers of a new end. -/
theorem drawEndNew_r {l : List Int} (hl : l.length ≤ 1048576) (h2 : ∀ x ∈ l, 0 ≤ x ∧ x ≤ 255) : FnM Try.prog 32 [] [(false, [.lst 0 0 5 (bytes l)])] fun o =>
    ∃ a b c d : Int, (0 ≤ a ∧ a ≤ 600000) ∧ (0 ≤ b ∧ b < 260) ∧ (0 ≤ c ∧ c ≤ 600000) ∧ (0 ≤ d ∧ d < 36) ∧ o = { res := .tup [int a, int b, int c, int d] } := by
  refine fn_of_vc tab_ok mixed Try.call32 Try.func32 rfl [] _ _ (by kernel_rfl) rfl rfl rfl ?_
  (conv => whnf)
  refine ⟨[], _, open_r hl h2, trivial, ?_⟩
  rintro o ⟨l', hl', rfl⟩ _
  repeat' ((conv => whnf); first
      | (refine goPick hl' (by exact ⟨⟨rfl, rfl⟩, trivial⟩) (by omega) (by omega) fun i hi1 hi2 => ?_)
      | (refine goWord hl' (by exact ⟨⟨rfl, rfl⟩, trivial⟩) (by omega) fun p' i hp1 hp2 hi1 hi2 => ?_)
      | (refine goQuo (by omega) (by omega) (by omega) fun r hr1 hr2 => ?_)
      | (refine retG [] 0 (by rfl) (by rfl) (by rfl) (by rfl) (by rfl) (by rfl) ⟨_, _, _, _, ?_, ?_, ?_, ?_, rfl⟩ <;> omega)
      | (split <;> rename_i hq <;> (try simp only [Bool.not_eq_eq_eq_not, Bool.not_true, Bool.not_false, decide_eq_true_eq, decide_eq_false_iff_not, inB_t, inB_f, bytes_len, List.length_map, Bool.and_eq_true, Bool.and_eq_false_iff, and_true] at hq) <;> (try (exfalso; first | omega | (simp_all; done))))
      | (refine goW (by first | omega | (simp; omega)) (by first | omega | (simp; omega)) ?_)
      | (refine ret1 (by rfl) (by rfl) (outB ?_); first | rfl | grind [inB])
      | (refine ret1 (by rfl) (by rfl) (outI ?_); first | rfl | omega | grind [inB])
      | (refine ret1 (by rfl) (by rfl) (outB ?_)) | (refine ret1 (by rfl) (by rfl) (outI ?_)))
end Go.Proofs.Ytpeejmolbmhjjaa.Sx
