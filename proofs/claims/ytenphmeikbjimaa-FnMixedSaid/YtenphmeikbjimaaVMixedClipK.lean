/- What slices.Clip leaves of a row of the call's own is such a row; there is no condition beyond those each statement names. -/
import Derived.Test.YtenphmeikbjimaaVMixedMore
import Derived.Lib.ConvBytes
set_option linter.unusedVariables false
namespace Go.Proofs.YtenphmeikbjimaaVMixed.PrintWords
open Go.RowKit
namespace Kd
theorem R_clip {α : Type} {d : Kd α} {e : Nat} {w : World} {base : Nat} {ok : Nat → Prop} {A : Option Addr} {n c : Nat} {xs : List α} (h : d.R e w base ok (.slice A n c) xs) : d.R e w base ok (.slice A n n) xs := by
  obtain ⟨h0, inner, ho, hr⟩ := h
  have hn : n = xs.length := by
    obtain ⟨A', c', he⟩ := own_slice ho
    injection he
  subst hn
  have hb : (Value.slice A xs.length xs.length).ownBlock = (Value.slice A xs.length c).ownBlock := by cases A <;> rfl
  refine ⟨fun k hk => h0 k (by rw [← hb]; exact hk), inner, ho.clipped, ?_⟩
  rw [hb]
  exact hr
theorem R_le {α : Type} {d : Kd α} {e : Nat} {w : World} {base : Nat} {ok : Nat → Prop} {A : Option Addr} {n c : Nat} {xs : List α} (h : d.R e w base ok (.slice A n c) xs) : n ≤ c := by
  obtain ⟨h0, inner, ho, hr⟩ := h
  exact own_le ho
/-- A literal of one-cell elements, read as it was made. -/
theorem C_lit {α : Type} {d : Kd α} (h1 : d.sz = 1) {W : World} {cs : List Value} {xs : List α} (t : Nat) (hl : xs.length = cs.length) (hm : cs.length ≤ 9223372036854775807)
    (h : ∀ (j : Nat) (x : α), xs[j]? = some x → ∃ u, cs[j]? = some u ∧ d.K (W.alloc (.cells cs.toArray t)) x [u]) : d.C (W.alloc (.cells cs.toArray t)) (some ⟨W.heap.size, 0, none⟩) cs.length xs := by
  refine ⟨hl, hm, fun _ => ⟨_, rfl, fun j x hj => ?_⟩⟩
  obtain ⟨u, hu, hk⟩ := h j x hj
  refine ⟨[u], h1.symm, hk, fun i v hv => ?_⟩
  cases i with
  | zero =>
    have e : v = u := by simpa using hv.symm
    subst e
    rw [h1, Nat.mul_one, Nat.add_zero, add_plain, cell_of_row _ _ _ _ _ _ (heap_alloc_new W _)]
    simpa using hu
  | succ i => simp at hv
theorem K_of_row {α : Type} {d : Kd α} {e : Nat} {w : World} {base : Nat} {ok : Nat → Prop} {v : Value} {xs : List α} (h : d.R e w base ok v xs) : (slice e d).K w xs [v] := (slice e d).K_of_M (show (slice e d).M w base ok xs [v] from ⟨v, rfl, h⟩)
section
variable {P : Program} {ops : Array Oper} {rest : List Oper} {o : Oper} {a : Act} {Q : Exit → Act → World → Prop} {α : Type}
/-- append(x, p), x a slice that is read, and tells no more room than it has elements: it is made anew. -/
theorem R_append_read (d : Kd α) {w0 W : World} (base : Nat) (hgd : o.guard = none) (s x : Operand) (t e : TypeId) (z : Value) (bytes : Nat)
    (ho : o.op = .call { callee := .builtin .append, args := #[s, x], argTypes := #[t, t] })
    (ht : P.underlying t = some (.slice e)) (hinfo : (P.info? e).map (fun i => (i.zero, i.size, i.bytes)) = some (some z, d.sz, bytes)) (hz : z.cells.size = d.sz) (hs0 : 0 < d.sz) (hb0 : 0 < bytes)
    (A : Option Addr) (n : Nat) (xs : List α) (p : α) (cs : List Value) (ok okp : Nat → Prop) (hs : a.eval s = .slice A n n) (hx : a.eval x = .slice (some ⟨W.heap.size, 0, none⟩) 1 1) (hp : d.M W base okp p cs) (hokp : ∀ k, okp k → ok k) (hfresh : ∀ k, W.heap.size ≤ k → ok k)
    (HC : d.C W A n xs) (hKM : ∀ y c, d.K W y c → d.M W base (fun _ => False) y c) (HB : Below base w0 W) (hbase : base ≤ W.heap.size) (hl : (xs.length + 1) * bytes ≤ 140737488355328)
    (h : ∀ v1 w1, d.R e w1 base ok v1 (xs ++ [p]) → Below base w0 w1 → wpList P ops Q rest (a.put o.dst v1) w1) :
    wpList P ops Q (o :: rest) a (W.alloc (.cells cs.toArray e)) := by
  have hn : xs.length = n := HC.1
  rcases A with _ | ad
  · have h0 : n = 0 := by
      rcases Nat.eq_zero_or_pos n with h0 | h0
      · exact h0
      · obtain ⟨ad, h1, _⟩ := HC.2.2 h0
        cases h1
    subst h0
    obtain rfl : xs = [] := List.eq_nil_of_length_eq_zero hn
    exact R_append d base hgd s x t e z bytes ho ht hinfo hz hs0 hb0 (.slice none 0 0) [] p cs ok okp hs hx hp (fun k hk => ⟨hokp k hk, by simp [Value.ownBlock]⟩) hfresh (R_nil _ _ _ _ _) HB hbase hl (fun v1 w1 h1 h2 _ _ => h v1 w1 h1 h2)
  · obtain ⟨i0, hi, hzz⟩ := Option.map_eq_some_iff.1 hinfo
    simp only [Prod.mk.injEq] at hzz
    obtain ⟨hz0, hz1, hz2⟩ := hzz
    obtain ⟨inner, hnr, hnc⟩ := ReadsRow.inner_ HC
    have hlen : xs.length + 1 ≤ 140737488355328 := Nat.le_trans (Nat.le_mul_of_pos_right _ hb0) hl
    have hb1 : Below W.heap.size W (W.alloc (.cells cs.toArray e)) := below_alloc (Below.refl _ _) _
    have hcl : cs.length = d.sz := d.K_len (d.K_of_M hp)
    obtain ⟨v1, w1, hrun, h2, hg⟩ := run_append_arg_grows (P := P) (w := W.alloc (.cells cs.toArray e)) t o.type e i0 z d.sz bytes ht hi hz0 hz1 hz2 hz hs0 ad n n inner (by rw [hnr.1, hn])
      (fun j u hu => pw_cell_below hb1 (hnc j u hu)) ⟨W.heap.size, 0, none⟩ 1 1 cs (by rw [hcl]; omega)
      (fun j u hu => by
        rw [add_plain, cell_of_row _ _ _ _ _ _ (heap_alloc_new W _)]
        simpa using hu) (by omega) (by simp only [maxLen]; omega) (by rw [← hn]; exact hl)
    have hsz : (W.alloc (.cells cs.toArray e)).heap.size = W.heap.size + 1 := by simp
    have hB1 : Below base w0 w1 := HB.trans ⟨hg.os.trans hb1.os, hg.tape.trans hb1.tape, hg.output.trans hb1.output, Nat.le_trans hb1.size hg.size, fun k hk => (hg.block k (by omega) (by simp)).trans (hb1.block k (by omega))⟩
    have hmove : ∀ {q : α} {c : List Value} {ok1 : Nat → Prop}, d.M W base ok1 q c → (∀ k, ok1 k → ok k) → d.M w1 base (fun k => ok k ∧ some k ≠ v1.ownBlock) q c := by
      intro q c ok1 hq hok1
      have h3 := d.M_move (w1 := w1) (fun k hk => (hg.block k (by have := hk.2.2.1; omega) (by simp)).trans (hb1.block k hk.2.2.1)) (d.M_bound hq)
      refine d.M_mono (fun k hk => ⟨hok1 k hk.1, fun he => ?_⟩) h3
      have := (h2.lt k he.symm).1
      have := hk.2.2.1
      omega
    refine wpList_plain hgd fun K hK => ?_
    unfold Oper.wp execOp
    simp only [ho, resolve, invoke, builtin, Sem.run_bind, Sem.run_pure, Result.andThen_ok, List.map_toArray, List.map_cons, List.map_nil, hs, hx, hrun]
    refine hK _ _ (h v1 w1 ⟨fun k hk => hfresh k (by have := (h2.lt k hk).1; omega), inner ++ cs, ?_, ?_⟩ hB1)
    · rw [List.length_append, hn]
      exact h2.clip.mono (by omega)
    · exact Reps.snoc (hnr.imp_ (fun q c hq => hmove (hKM q c hq) (fun _ hk => hk.elim))) (hmove hp hokp) hcl
end
end Kd
end Go.Proofs.YtenphmeikbjimaaVMixed.PrintWords
