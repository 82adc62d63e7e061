/- What slices.Clip leaves of a row of the call's own is such a row; there is no condition beyond those each statement names. -/
import Derived.Test.YtmgnmgobibpjjaaVKeptFindMore
import Derived.Lib.ConvBytes
set_option linter.unusedVariables false
namespace Go.Proofs.YtmgnmgobibpjjaaVKeptFind.PrintWords
open Go.RowKit
namespace Kd
theorem R_clip {α : Type} {d : Kd α} {e : Nat} {w : World} {base : Nat} {ok : Nat → Prop} {A : Option Addr} {n c : Nat} {xs : List α} (h : d.R e w base ok (.slice A n c) xs) : d.R e w base ok (.slice A n n) xs := by
  obtain ⟨h0, inner, ho, hr⟩ := h
  have hn : n = xs.length := by
    obtain ⟨A', c', he⟩ := own_slice ho
    injection he
  subst hn
  have hb : (Value.slice A xs.length xs.length).ownBlock = (Value.slice A xs.length c).ownBlock := by cases A <;> rfl
  refine ⟨fun k hk => h0 k (by rw [← hb]; exact hk), inner, ho.clipped, ?_⟩
  rw [hb]
  exact hr
theorem R_le {α : Type} {d : Kd α} {e : Nat} {w : World} {base : Nat} {ok : Nat → Prop} {A : Option Addr} {n c : Nat} {xs : List α} (h : d.R e w base ok (.slice A n c) xs) : n ≤ c := by
  obtain ⟨h0, inner, ho, hr⟩ := h
  exact own_le ho
section
variable {P : Program} {ops : Array Oper} {rest : List Oper} {o : Oper} {a : Act} {Q : Exit → Act → World → Prop} {α : Type}
/-- The bytes of a string, made anew: they are read. -/
theorem C_of_str {w0 W : World} (base : Nat) (hgd : o.guard = none) (src dst e : TypeId) (x : Operand) (ho : o.op = .convert src dst x) (hs : P.underlying src = some .string) (hd : P.underlying dst = some (.slice e)) (he : P.underlying e = some (.int .u8))
    (s : ByteArray) (hx : a.eval x = .string s) (HB : Below base w0 W) (hbase : base ≤ W.heap.size) (hm : s.size ≤ 9223372036854775807)
    (h : ∀ A c w1, s.size ≤ c → (Kd.int .u8).C w1 A s.size (bytesOf s) → Below base w0 w1 → wpList P ops Q rest (a.put o.dst (.slice A s.size c)) w1) : wpList P ops Q (o :: rest) a W := by
  have hrun : (execOp a.eval o).run P W = .ok (.value (.slice (some ⟨W.heap.size, 0, none⟩) s.size (grownCap W s.size 0 e))) (Go.Lib.bytesWorld W e s) := by
    unfold execOp
    simp only [ho, hx, Sem.run_bind, Go.Lib.run_convert_string_bytes W src dst e s hs hd he, Result.andThen_ok, Sem.run_pure]
  refine event_run hgd hrun (h _ _ _ ?_ ?_ ?_)
  · exact grownCap_ge W s.size 0 e
  · refine ⟨bytesOf_length s, hm, fun _ => ⟨_, rfl, fun j p hj => ?_⟩⟩
    obtain ⟨hl, hp⟩ := List.getElem?_eq_some_iff.1 hj
    have hj' : j < s.size := by rw [bytesOf_length] at hl; exact hl
    refine ⟨[.int .u8 p], rfl, rfl, fun i v hv => ?_⟩
    cases i with
    | zero =>
      have e : v = .int .u8 p := by simpa using hv.symm
      subst e
      rw [show j * (Kd.int .u8).sz + 0 = j from by show j * 1 + 0 = j; omega, add_plain, Go.Lib.bytesWorld_cell W _ s j hj']
      have hl2 : j < s.data.toList.length := by rw [data_length]; exact hj'
      have e2 : some (((s.data.toList[j]).toNat : Nat) : Int) = some p := by
        rw [bytesOf, List.getElem?_map, List.getElem?_eq_getElem hl2] at hj; exact hj
      rw [← Option.some.inj e2, List.getD_eq_getElem?_getD, List.getElem?_eq_getElem hl2]; rfl
    | succ i => simp at hv
  · have hd : Below W.heap.size W (Go.Lib.bytesWorld W e s) := by
      refine ⟨rfl, rfl, rfl, ?_, fun k hk => Go.Lib.bytesWorld_at_old W e s k hk⟩
      rw [Go.Lib.bytesWorld_size]; omega
    exact HB.trans ⟨hd.os, hd.tape, hd.output, hd.size, fun k hk => hd.block k (by omega)⟩
theorem C_of_str' {w0 W : World} (base : Nat) (hgd : o.guard = none) (src dst e : TypeId) (x : Operand) (ho : o.op = .convert src dst x) (hs : P.underlying src = some .string) (hd : P.underlying dst = some (.slice e)) (he : P.underlying e = some (.int .u8))
    (s : ByteArray) (xs : List Int) (hxs : xs = bytesOf s) (hx : a.eval x = .string s) (HB : Below base w0 W) (hbase : base ≤ W.heap.size) (hm : s.size ≤ 9223372036854775807)
    (h : ∀ A c w1, xs.length ≤ c → (Kd.int .u8).C w1 A xs.length xs → Below base w0 w1 → wpList P ops Q rest (a.put o.dst (.slice A xs.length c)) w1) : wpList P ops Q (o :: rest) a W := by
  refine C_of_str base hgd src dst e x ho hs hd he s hx HB hbase hm fun A c w1 h1 h2 h3 => ?_
  have h4 := h A c w1
  rw [hxs, bytesOf_length] at h4
  exact h4 h1 h2 h3
end
end Kd
end Go.Proofs.YtmgnmgobibpjjaaVKeptFind.PrintWords
