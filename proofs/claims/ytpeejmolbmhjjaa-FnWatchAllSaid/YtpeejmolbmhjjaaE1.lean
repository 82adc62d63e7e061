/- What EarRanges, and EarOk under it, come to, walked step by step; there is no condition beyond those each statement names. -/
import Derived.Test.YtpeejmolbmhjjaaProg
import Derived.Below
import Derived.Deep.Draws
import Derived.Deep.AppendLies
import Derived.Maps.AppendAt
import Derived.OwnWalk
import Derived.Laws.BytesArg
import Derived.Laws.MakeOwn
import Derived.Laws.OwnMore
import Derived.Deep.OwnRows
import Derived.Tactics
import Derived.Lib.ConvBytes
import Derived.Laws.Slices
import Derived.WalkKit
import Derived.KernelRfl
import Derived.RowKit3
import Derived.Deep.LoopGhost
import Derived.Deep.QuietTactic
import Derived.BigQuiet
import Derived.WideLaws
import Derived.Deep.DeepCutAuto
import Derived.Deep.CutBlock
import Derived.Deep.RegionHeld3
import Derived.Laws.Rows
import Derived.Lib.AppendStr
import Derived.ArgAppend
import Derived.Laws.IdiomCopy
import Derived.OrdersHeld
import Derived.Laws.BitsLemmas
import Derived.RowKit
import Derived.Test.YtpeejmolbmhjjaaVEWords
import Derived.Test.YtpeejmolbmhjjaaVELast
import Derived.Test.YtpeejmolbmhjjaaVETab
import Derived.Test.YtpeejmolbmhjjaaVEFour
import Derived.Test.YtpeejmolbmhjjaaVEQPut
import Derived.Test.YtpeejmolbmhjjaaVEApart
import Derived.Test.YtpeejmolbmhjjaaVEArr
import Derived.Test.YtpeejmolbmhjjaaVEZeros
import Derived.Test.YtpeejmolbmhjjaaVEFoot
import Derived.Test.YtpeejmolbmhjjaaVEKept
import Derived.Test.YtpeejmolbmhjjaaVEShare
import Derived.Test.YtpeejmolbmhjjaaVEN
import Derived.Test.YtpeejmolbmhjjaaVEFootNe
import Derived.Test.YtpeejmolbmhjjaaVEAt
import Derived.Test.YtpeejmolbmhjjaaVEEqStruct
import Derived.Test.YtpeejmolbmhjjaaVERepsOne
import Derived.Test.YtpeejmolbmhjjaaVEInv
import Derived.Test.YtpeejmolbmhjjaaVEInvWords
import Derived.Test.YtpeejmolbmhjjaaVEGuard
import Derived.Test.YtpeejmolbmhjjaaVENEv
import Derived.Test.YtpeejmolbmhjjaaVEMore
namespace Go.Proofs.Ytpeejmolbmhjjaa.Ears
open Go.RowKit Go.Proofs.YtpeejmolbmhjjaaW.PrintWords Go.Proofs.YtpeejmolbmhjjaaW.PrintLast Go.Proofs.YtpeejmolbmhjjaaW.PrintMore
attribute [local go_sem] max2_int min2_int max_two min_two max_three min_three max_four min_four   -- for this text's walks alone
set_option linter.unusedVariables false
set_option linter.unusedSimpArgs false



def errW : Option Int → Value
  | none => .nilIface
  | some c => .iface 0 (.int .i64 c)
theorem errW_none : errW none = .nilIface := rfl
theorem errW_some (c : Int) : errW (some c) = .iface 0 (.int .i64 c) := rfl

theorem info5 : (Try.prog.info? 5).map (fun i => (i.zero, i.size, i.bytes)) = some (some (.int .u8 0), 1, 1) := by kernel_rfl
theorem info108 : (Try.prog.info? 108).map (fun i => (i.zero, i.size, i.bytes)) = some (some (.agg #[(.int .i64 0), (.int .i64 0)]), 2, 16) := by kernel_rfl
theorem info138 : (Try.prog.info? 138).map (fun i => (i.zero, i.size, i.bytes)) = some (some (.agg #[(.int .i64 0), (.int .u8 0)]), 2, 16) := by kernel_rfl
theorem info174 : (Try.prog.info? 174).map (fun i => (i.zero, i.size, i.bytes)) = some (some (.agg #[(.int .i64 0), (.int .i64 0), (.int .i64 0), (.int .i64 0), (.int .i64 0), (.bool false), (.bool false), (.bool false), (.bool false), (.slice none 0 0), (.slice none 0 0)]), 11, 96) := by kernel_rfl
-- the values' own types
/-! #### struct type 108 -/
structure S108 where
  f0 : Int
  f1 : Int
def z108 : S108 := ⟨(0 : Int), (0 : Int)⟩
def k108 : Kd S108 := Kd.iso (Kd.pair (Kd.int .i64) (Kd.int .i64)) (fun x : S108 => (x.f0, x.f1))
theorem k108_open {w : World} {x : S108} {cs : List Value} (h : k108.K w x cs) : cs = [.int .i64 x.f0, .int .i64 x.f1] := by
  obtain ⟨_, _, rfl, rfl, rfl⟩ := h
  exact rfl
theorem k108_openM {w : World} {base : Nat} {ok : Nat → Prop} {x : S108} {cs : List Value} (h : k108.M w base ok x cs) : cs = [.int .i64 x.f0, .int .i64 x.f1] := by
  obtain ⟨_, _, rfl, rfl, rfl⟩ := h
  exact rfl
theorem k108_mk (w : World) (x : S108)  : k108.K w x [.int .i64 x.f0, .int .i64 x.f1] := ⟨[.int .i64 x.f0], [.int .i64 x.f1], rfl, rfl, rfl⟩
theorem k108_mkM (w : World) (base : Nat) (ok : Nat → Prop) (x : S108)  : k108.M w base ok x [.int .i64 x.f0, .int .i64 x.f1] := ⟨[.int .i64 x.f0], [.int .i64 x.f1], rfl, rfl, rfl⟩
theorem k108_mkF (W : World) (ok : Nat → Prop) (x : S108) : Kd.FK k108 W ok x [.int .i64 x.f0, .int .i64 x.f1] := fun W2 _ => k108_mk W2 x
def rd_T108 (xs : List S108) (i : Int) : S108 := xs.getD i.toNat z108
theorem at_T108 {w : World} {A : Option Addr} {n : Nat} {xs : List S108} (h : Kd.C k108 w A n xs) (i : Int) (h0 : 0 ≤ i) (h1 : i < n) : ∃ ad , A = some ad ∧ w.cell? (ad.add (i.toNat * 2)) = some (.int .i64 (rd_T108 xs i).f0) ∧ w.cell? ⟨(ad.add (i.toNat * 2)).block, (ad.add (i.toNat * 2)).off + 1, none⟩ = some (.int .i64 (rd_T108 xs i).f1) := by
  obtain ⟨ad, c, e, _, hK, hc0⟩ := Kd.C_get h z108 i h0 h1
  have hc : ∀ j u, c[j]? = some u → w.cell? (ad.add (i.toNat * 2 + j)) = some u := hc0
  obtain rfl := k108_open hK
  exact ⟨ad, e, hc 0 _ rfl, by rw [← add_field _ _ 1 (by omega)]; exact hc 1 _ rfl⟩

/-! #### struct type 138 -/
structure S138 where
  f0 : Int
  f1 : Int
def z138 : S138 := ⟨(0 : Int), (0 : Int)⟩
def k138 : Kd S138 := Kd.iso (Kd.pair (Kd.int .i64) (Kd.int .u8)) (fun x : S138 => (x.f0, x.f1))
theorem k138_open {w : World} {x : S138} {cs : List Value} (h : k138.K w x cs) : cs = [.int .i64 x.f0, .int .u8 x.f1] := by
  obtain ⟨_, _, rfl, rfl, rfl⟩ := h
  exact rfl
theorem k138_openM {w : World} {base : Nat} {ok : Nat → Prop} {x : S138} {cs : List Value} (h : k138.M w base ok x cs) : cs = [.int .i64 x.f0, .int .u8 x.f1] := by
  obtain ⟨_, _, rfl, rfl, rfl⟩ := h
  exact rfl
theorem k138_mk (w : World) (x : S138)  : k138.K w x [.int .i64 x.f0, .int .u8 x.f1] := ⟨[.int .i64 x.f0], [.int .u8 x.f1], rfl, rfl, rfl⟩
theorem k138_mkM (w : World) (base : Nat) (ok : Nat → Prop) (x : S138)  : k138.M w base ok x [.int .i64 x.f0, .int .u8 x.f1] := ⟨[.int .i64 x.f0], [.int .u8 x.f1], rfl, rfl, rfl⟩
theorem k138_mkF (W : World) (ok : Nat → Prop) (x : S138) : Kd.FK k138 W ok x [.int .i64 x.f0, .int .u8 x.f1] := fun W2 _ => k138_mk W2 x
def rd_T138 (xs : List S138) (i : Int) : S138 := xs.getD i.toNat z138
theorem at_T138 {w : World} {A : Option Addr} {n : Nat} {xs : List S138} (h : Kd.C k138 w A n xs) (i : Int) (h0 : 0 ≤ i) (h1 : i < n) : ∃ ad , A = some ad ∧ w.cell? (ad.add (i.toNat * 2)) = some (.int .i64 (rd_T138 xs i).f0) ∧ w.cell? ⟨(ad.add (i.toNat * 2)).block, (ad.add (i.toNat * 2)).off + 1, none⟩ = some (.int .u8 (rd_T138 xs i).f1) := by
  obtain ⟨ad, c, e, _, hK, hc0⟩ := Kd.C_get h z138 i h0 h1
  have hc : ∀ j u, c[j]? = some u → w.cell? (ad.add (i.toNat * 2 + j)) = some u := hc0
  obtain rfl := k138_open hK
  exact ⟨ad, e, hc 0 _ rfl, by rw [← add_field _ _ 1 (by omega)]; exact hc 1 _ rfl⟩

def rd_L5 (xs : List (List S108)) (i : Int) : (List S108) := xs.getD i.toNat ([] : List S108)
theorem at_L5 {w : World} {A : Option Addr} {n : Nat} {xs : List (List S108)} (h : Kd.C (Kd.slice 108 k108) w A n xs) (i : Int) (h0 : 0 ≤ i) (h1 : i < n) : ∃ ad A0 c0, A = some ad ∧ w.cell? (ad.add i.toNat) = some (.slice A0 (rd_L5 xs i).length c0) ∧ (rd_L5 xs i).length ≤ c0 ∧ k108.C w A0 (rd_L5 xs i).length (rd_L5 xs i) := by
  obtain ⟨ad, c, e, _, hK, hc0⟩ := Kd.C_get h ([] : List S108) i h0 h1
  have hc : ∀ j u, c[j]? = some u → w.cell? (ad.add (i.toNat * 1 + j)) = some u := hc0
  obtain ⟨A0, c0, rfl, l0, g0⟩ := hK
  exact ⟨ad, A0, c0, e, by have hq := hc 0 _ rfl; rwa [Nat.mul_one, Nat.add_zero] at hq, l0, g0⟩

def rd_L6 (xs : List (List Int)) (i : Int) : (List Int) := xs.getD i.toNat ([] : List Int)
theorem at_L6 {w : World} {A : Option Addr} {n : Nat} {xs : List (List Int)} (h : Kd.C (Kd.slice 5 (Kd.int .u8)) w A n xs) (i : Int) (h0 : 0 ≤ i) (h1 : i < n) : ∃ ad A0 c0, A = some ad ∧ w.cell? (ad.add i.toNat) = some (.slice A0 (rd_L6 xs i).length c0) ∧ (rd_L6 xs i).length ≤ c0 ∧ (Kd.int .u8).C w A0 (rd_L6 xs i).length (rd_L6 xs i) := by
  obtain ⟨ad, c, e, _, hK, hc0⟩ := Kd.C_get h ([] : List Int) i h0 h1
  have hc : ∀ j u, c[j]? = some u → w.cell? (ad.add (i.toNat * 1 + j)) = some u := hc0
  obtain ⟨A0, c0, rfl, l0, g0⟩ := hK
  exact ⟨ad, A0, c0, e, by have hq := hc 0 _ rfl; rwa [Nat.mul_one, Nat.add_zero] at hq, l0, g0⟩

/-! #### struct type 174 -/
structure S174 where
  f0 : Int
  f1 : Int
  f2 : Int
  f3 : Int
  f4 : Int
  f5 : Bool
  f6 : Bool
  f7 : Bool
  f8 : Bool
  f9 : (List S108)
  f10 : (List Int)
def z174 : S174 := ⟨(0 : Int), (0 : Int), (0 : Int), (0 : Int), (0 : Int), false, false, false, false, ([] : List S108), ([] : List Int)⟩
def k174 : Kd S174 := Kd.iso (Kd.pair (Kd.int .i64) (Kd.pair (Kd.int .i64) (Kd.pair (Kd.int .i64) (Kd.pair (Kd.int .i64) (Kd.pair (Kd.int .i64) (Kd.pair Kd.bool (Kd.pair Kd.bool (Kd.pair Kd.bool (Kd.pair Kd.bool (Kd.pair (Kd.slice 108 k108) (Kd.slice 5 (Kd.int .u8)))))))))))) (fun x : S174 => (x.f0, x.f1, x.f2, x.f3, x.f4, x.f5, x.f6, x.f7, x.f8, x.f9, x.f10))
theorem k174_open {w : World} {x : S174} {cs : List Value} (h : k174.K w x cs) : ∃ A9 c9 A10 c10, cs = [.int .i64 x.f0, .int .i64 x.f1, .int .i64 x.f2, .int .i64 x.f3, .int .i64 x.f4, .bool x.f5, .bool x.f6, .bool x.f7, .bool x.f8, .slice A9 x.f9.length c9, .slice A10 x.f10.length c10] ∧ x.f9.length ≤ c9 ∧ k108.C w A9 x.f9.length x.f9 ∧ x.f10.length ≤ c10 ∧ (Kd.int .u8).C w A10 x.f10.length x.f10 := by
  obtain ⟨_, _, rfl, rfl, ⟨_, _, rfl, rfl, ⟨_, _, rfl, rfl, ⟨_, _, rfl, rfl, ⟨_, _, rfl, rfl, ⟨_, _, rfl, rfl, ⟨_, _, rfl, rfl, ⟨_, _, rfl, rfl, ⟨_, _, rfl, rfl, ⟨_, _, rfl, ⟨A9, c9, rfl, l9, g9⟩, ⟨A10, c10, rfl, l10, g10⟩⟩⟩⟩⟩⟩⟩⟩⟩⟩⟩ := h
  exact ⟨A9, c9, A10, c10, rfl, l9, g9, l10, g10⟩
theorem k174_openM {w : World} {base : Nat} {ok : Nat → Prop} {x : S174} {cs : List Value} (h : k174.M w base ok x cs) : ∃ v9 v10, cs = [.int .i64 x.f0, .int .i64 x.f1, .int .i64 x.f2, .int .i64 x.f3, .int .i64 x.f4, .bool x.f5, .bool x.f6, .bool x.f7, .bool x.f8, v9, v10] ∧ k108.R 108 w base ok v9 x.f9 ∧ (Kd.int .u8).R 5 w base ok v10 x.f10 := by
  obtain ⟨_, _, rfl, rfl, ⟨_, _, rfl, rfl, ⟨_, _, rfl, rfl, ⟨_, _, rfl, rfl, ⟨_, _, rfl, rfl, ⟨_, _, rfl, rfl, ⟨_, _, rfl, rfl, ⟨_, _, rfl, rfl, ⟨_, _, rfl, rfl, ⟨_, _, rfl, ⟨v9, rfl, g9⟩, ⟨v10, rfl, g10⟩⟩⟩⟩⟩⟩⟩⟩⟩⟩⟩ := h
  exact ⟨v9, v10, rfl, g9, g10⟩
theorem k174_mk (w : World) (x : S174) {A9 : Option Addr} {c9 : Nat} (l9 : x.f9.length ≤ c9) (g9 : k108.C w A9 x.f9.length x.f9) {A10 : Option Addr} {c10 : Nat} (l10 : x.f10.length ≤ c10) (g10 : (Kd.int .u8).C w A10 x.f10.length x.f10) : k174.K w x [.int .i64 x.f0, .int .i64 x.f1, .int .i64 x.f2, .int .i64 x.f3, .int .i64 x.f4, .bool x.f5, .bool x.f6, .bool x.f7, .bool x.f8, .slice A9 x.f9.length c9, .slice A10 x.f10.length c10] := ⟨[.int .i64 x.f0], [.int .i64 x.f1, .int .i64 x.f2, .int .i64 x.f3, .int .i64 x.f4, .bool x.f5, .bool x.f6, .bool x.f7, .bool x.f8, .slice A9 x.f9.length c9, .slice A10 x.f10.length c10], rfl, rfl, ⟨[.int .i64 x.f1], [.int .i64 x.f2, .int .i64 x.f3, .int .i64 x.f4, .bool x.f5, .bool x.f6, .bool x.f7, .bool x.f8, .slice A9 x.f9.length c9, .slice A10 x.f10.length c10], rfl, rfl, ⟨[.int .i64 x.f2], [.int .i64 x.f3, .int .i64 x.f4, .bool x.f5, .bool x.f6, .bool x.f7, .bool x.f8, .slice A9 x.f9.length c9, .slice A10 x.f10.length c10], rfl, rfl, ⟨[.int .i64 x.f3], [.int .i64 x.f4, .bool x.f5, .bool x.f6, .bool x.f7, .bool x.f8, .slice A9 x.f9.length c9, .slice A10 x.f10.length c10], rfl, rfl, ⟨[.int .i64 x.f4], [.bool x.f5, .bool x.f6, .bool x.f7, .bool x.f8, .slice A9 x.f9.length c9, .slice A10 x.f10.length c10], rfl, rfl, ⟨[.bool x.f5], [.bool x.f6, .bool x.f7, .bool x.f8, .slice A9 x.f9.length c9, .slice A10 x.f10.length c10], rfl, rfl, ⟨[.bool x.f6], [.bool x.f7, .bool x.f8, .slice A9 x.f9.length c9, .slice A10 x.f10.length c10], rfl, rfl, ⟨[.bool x.f7], [.bool x.f8, .slice A9 x.f9.length c9, .slice A10 x.f10.length c10], rfl, rfl, ⟨[.bool x.f8], [.slice A9 x.f9.length c9, .slice A10 x.f10.length c10], rfl, rfl, ⟨[.slice A9 x.f9.length c9], [.slice A10 x.f10.length c10], rfl, ⟨A9, c9, rfl, l9, g9⟩, ⟨A10, c10, rfl, l10, g10⟩⟩⟩⟩⟩⟩⟩⟩⟩⟩⟩
theorem k174_mkM (w : World) (base : Nat) (ok : Nat → Prop) (x : S174) {v9 : Value} (g9 : k108.R 108 w base ok v9 x.f9) {v10 : Value} (g10 : (Kd.int .u8).R 5 w base ok v10 x.f10) : k174.M w base ok x [.int .i64 x.f0, .int .i64 x.f1, .int .i64 x.f2, .int .i64 x.f3, .int .i64 x.f4, .bool x.f5, .bool x.f6, .bool x.f7, .bool x.f8, v9, v10] := ⟨[.int .i64 x.f0], [.int .i64 x.f1, .int .i64 x.f2, .int .i64 x.f3, .int .i64 x.f4, .bool x.f5, .bool x.f6, .bool x.f7, .bool x.f8, v9, v10], rfl, rfl, ⟨[.int .i64 x.f1], [.int .i64 x.f2, .int .i64 x.f3, .int .i64 x.f4, .bool x.f5, .bool x.f6, .bool x.f7, .bool x.f8, v9, v10], rfl, rfl, ⟨[.int .i64 x.f2], [.int .i64 x.f3, .int .i64 x.f4, .bool x.f5, .bool x.f6, .bool x.f7, .bool x.f8, v9, v10], rfl, rfl, ⟨[.int .i64 x.f3], [.int .i64 x.f4, .bool x.f5, .bool x.f6, .bool x.f7, .bool x.f8, v9, v10], rfl, rfl, ⟨[.int .i64 x.f4], [.bool x.f5, .bool x.f6, .bool x.f7, .bool x.f8, v9, v10], rfl, rfl, ⟨[.bool x.f5], [.bool x.f6, .bool x.f7, .bool x.f8, v9, v10], rfl, rfl, ⟨[.bool x.f6], [.bool x.f7, .bool x.f8, v9, v10], rfl, rfl, ⟨[.bool x.f7], [.bool x.f8, v9, v10], rfl, rfl, ⟨[.bool x.f8], [v9, v10], rfl, rfl, ⟨[v9], [v10], rfl, ⟨v9, rfl, g9⟩, ⟨v10, rfl, g10⟩⟩⟩⟩⟩⟩⟩⟩⟩⟩⟩
theorem k174_openF {W : World} {ok : Nat → Prop} {x : S174} {cs : List Value} (h : Kd.FK k174 W ok x cs) : ∃ A9 c9 A10 c10, cs = [.int .i64 x.f0, .int .i64 x.f1, .int .i64 x.f2, .int .i64 x.f3, .int .i64 x.f4, .bool x.f5, .bool x.f6, .bool x.f7, .bool x.f8, .slice A9 x.f9.length c9, .slice A10 x.f10.length c10] ∧ x.f9.length ≤ c9 ∧ Kd.F k108 W ok A9 x.f9.length x.f9 ∧ x.f10.length ≤ c10 ∧ Kd.F (Kd.int .u8) W ok A10 x.f10.length x.f10 := by
  obtain ⟨A9, c9, A10, c10, rfl, l9, _, l10, _⟩ := k174_open (Kd.FK_now h)
  exact ⟨A9, c9, A10, c10, rfl, l9, (fun W' hW => by obtain ⟨A9_, c9_, A10_, c10_, he, l9_, g9_, l10_, g10_⟩ := k174_open (h W' hW); injection (Option.some.inj (show some (Value.slice A9 x.f9.length c9) = some (Value.slice A9_ x.f9.length c9_) from congrArg (fun l => l[9]?) he)) with ha_ _ _; rw [ha_]; exact g9_), l10, (fun W' hW => by obtain ⟨A9_, c9_, A10_, c10_, he, l9_, g9_, l10_, g10_⟩ := k174_open (h W' hW); injection (Option.some.inj (show some (Value.slice A10 x.f10.length c10) = some (Value.slice A10_ x.f10.length c10_) from congrArg (fun l => l[10]?) he)) with ha_ _ _; rw [ha_]; exact g10_)⟩
theorem k174_mkF (W : World) (ok : Nat → Prop) (x : S174) {A9 : Option Addr} {c9 : Nat} (l9 : x.f9.length ≤ c9) (g9 : Kd.F k108 W ok A9 x.f9.length x.f9) {A10 : Option Addr} {c10 : Nat} (l10 : x.f10.length ≤ c10) (g10 : Kd.F (Kd.int .u8) W ok A10 x.f10.length x.f10) : Kd.FK k174 W ok x [.int .i64 x.f0, .int .i64 x.f1, .int .i64 x.f2, .int .i64 x.f3, .int .i64 x.f4, .bool x.f5, .bool x.f6, .bool x.f7, .bool x.f8, .slice A9 x.f9.length c9, .slice A10 x.f10.length c10] := fun W2 hW => k174_mk W2 x l9 (g9 W2 hW) l10 (g10 W2 hW)
def rd_T174 (xs : List S174) (i : Int) : S174 := xs.getD i.toNat z174
theorem at_T174 {w : World} {A : Option Addr} {n : Nat} {xs : List S174} (h : Kd.C k174 w A n xs) (i : Int) (h0 : 0 ≤ i) (h1 : i < n) : ∃ ad A9 c9 A10 c10, A = some ad ∧ w.cell? (ad.add (i.toNat * 11)) = some (.int .i64 (rd_T174 xs i).f0) ∧ w.cell? ⟨(ad.add (i.toNat * 11)).block, (ad.add (i.toNat * 11)).off + 1, none⟩ = some (.int .i64 (rd_T174 xs i).f1) ∧ w.cell? ⟨(ad.add (i.toNat * 11)).block, (ad.add (i.toNat * 11)).off + 2, none⟩ = some (.int .i64 (rd_T174 xs i).f2) ∧ w.cell? ⟨(ad.add (i.toNat * 11)).block, (ad.add (i.toNat * 11)).off + 3, none⟩ = some (.int .i64 (rd_T174 xs i).f3) ∧ w.cell? ⟨(ad.add (i.toNat * 11)).block, (ad.add (i.toNat * 11)).off + 4, none⟩ = some (.int .i64 (rd_T174 xs i).f4) ∧ w.cell? ⟨(ad.add (i.toNat * 11)).block, (ad.add (i.toNat * 11)).off + 5, none⟩ = some (.bool (rd_T174 xs i).f5) ∧ w.cell? ⟨(ad.add (i.toNat * 11)).block, (ad.add (i.toNat * 11)).off + 6, none⟩ = some (.bool (rd_T174 xs i).f6) ∧ w.cell? ⟨(ad.add (i.toNat * 11)).block, (ad.add (i.toNat * 11)).off + 7, none⟩ = some (.bool (rd_T174 xs i).f7) ∧ w.cell? ⟨(ad.add (i.toNat * 11)).block, (ad.add (i.toNat * 11)).off + 8, none⟩ = some (.bool (rd_T174 xs i).f8) ∧ w.cell? ⟨(ad.add (i.toNat * 11)).block, (ad.add (i.toNat * 11)).off + 9, none⟩ = some (.slice A9 (rd_T174 xs i).f9.length c9) ∧ w.cell? ⟨(ad.add (i.toNat * 11)).block, (ad.add (i.toNat * 11)).off + 10, none⟩ = some (.slice A10 (rd_T174 xs i).f10.length c10) ∧ (rd_T174 xs i).f9.length ≤ c9 ∧ k108.C w A9 (rd_T174 xs i).f9.length (rd_T174 xs i).f9 ∧ (rd_T174 xs i).f10.length ≤ c10 ∧ (Kd.int .u8).C w A10 (rd_T174 xs i).f10.length (rd_T174 xs i).f10 := by
  obtain ⟨ad, c, e, _, hK, hc0⟩ := Kd.C_get h z174 i h0 h1
  have hc : ∀ j u, c[j]? = some u → w.cell? (ad.add (i.toNat * 11 + j)) = some u := hc0
  obtain ⟨A9, c9, A10, c10, rfl, l9, g9, l10, g10⟩ := k174_open hK
  exact ⟨ad, A9, c9, A10, c10, e, hc 0 _ rfl, by rw [← add_field _ _ 1 (by omega)]; exact hc 1 _ rfl, by rw [← add_field _ _ 2 (by omega)]; exact hc 2 _ rfl, by rw [← add_field _ _ 3 (by omega)]; exact hc 3 _ rfl, by rw [← add_field _ _ 4 (by omega)]; exact hc 4 _ rfl, by rw [← add_field _ _ 5 (by omega)]; exact hc 5 _ rfl, by rw [← add_field _ _ 6 (by omega)]; exact hc 6 _ rfl, by rw [← add_field _ _ 7 (by omega)]; exact hc 7 _ rfl, by rw [← add_field _ _ 8 (by omega)]; exact hc 8 _ rfl, by rw [← add_field _ _ 9 (by omega)]; exact hc 9 _ rfl, by rw [← add_field _ _ 10 (by omega)]; exact hc 10 _ rfl, l9, g9, l10, g10⟩
/-! ### spec_l1In: function 108 -/
def spec_l1In.f (a0 : Int) (a1 : Int) (a2 : Int) : Option (Bool) := if a0 ≥ a1 then (some (decide (a0 ≤ a2))) else (some false)
set_option maxHeartbeats 8000000 in
set_option maxRecDepth 100000 in
theorem spec_l1In.calls (a0 : Int) (a1 : Int) (a2 : Int) (r : Bool) (w : World) (h : spec_l1In.f a0 a1 a2 = some r) :
    Calls Try.prog 108 #[.int .i64 a0, .int .i64 a1, .int .i64 a2] w fun e w' => e = .returned (.bool r) ∧ Drawn0 w w' := by
  have H : (if a0 ≥ a1 then (some (decide (a0 ≤ a2))) else (some false)) = some r := h
  clear h
  by_cases c4 : a0 ≥ a1
  · rw [if_pos c4] at H
    have c4b0 : decide (a1 ≤ a0) = true := decide_eq_true c4
    clear c4
    obtain rfl := Option.some.inj H
    go_enter Try.func108, Try.ntmps108
    go_wp2
    go_ret
    exact ⟨by first | rfl | (simp; done) | (simp [*]; done), by repeat (first | exact Drawn0.refl _ | apply Drawn0.step)⟩
  · rw [if_neg c4] at H
    have c4b0 : decide (a1 ≤ a0) = false := decide_eq_false c4
    clear c4
    obtain rfl := Option.some.inj H
    go_enter Try.func108, Try.ntmps108
    go_wp2
    go_ret
    exact ⟨by first | rfl | (simp; done) | (simp [*]; done), by repeat (first | exact Drawn0.refl _ | apply Drawn0.step)⟩
/-! ### spec_EarOk: function 110 -/
mutual
def spec_EarOk.j0 : Nat → Bool → Int → Int → List Int → List (S138) → Option (Bool)
  | 0, _, _, _, _, _ => none
  | k + 1, x21, x172000, x172001, x172002, x172003 => if x21 = true then (some false) else (spec_EarOk.l0 k 0 x172000 x172001 x172002 x172003)
def spec_EarOk.l0 : Nat → Int → Int → Int → List Int → List (S138) → Option (Bool)
  | 0, _, _, _, _, _ => none
  | k + 1, x3, x172000, x172001, x172002, x172003 => if x3 < (x172003.length : Int) then (if 0 ≤ x3 then (if ((rd_T138 x172003 x3).f0) ≤ x172000 then (some false) else (if ((rd_T138 x172003 x3).f0) ≥ (wrap64 ((wrap64 (x172000 + x172001)) - (x172002.length : Int))) then (some false) else (if x3 > 0 then (if 0 ≤ (wrap64 (x3 - 1)) then (if (wrap64 (x3 - 1)) < (x172003.length : Int) then (if ((rd_T138 x172003 (wrap64 (x3 - 1))).f0) ≥ ((rd_T138 x172003 x3).f0) then (some false) else (spec_EarOk.l0 k (wrap64 (x3 + 1)) x172000 x172001 x172002 x172003)) else (none)) else (none)) else (spec_EarOk.l0 k (wrap64 (x3 + 1)) x172000 x172001 x172002 x172003)))) else (none)) else (some true)
end
def spec_EarOk.f (k : Nat) (a0_0 : Int) (a0_1 : Int) (l0_2 : List Int) (l0_3 : List (S138)) : Option (Bool) := (spec_l1In.f a0_0 0 1000000).bind fun t172 => (if t172 = true then ((spec_l1In.f a0_1 1 32).bind fun t173 => (if t173 = true then (spec_EarOk.j0 k (decide ((l0_2.length : Int) > a0_1)) a0_0 a0_1 l0_2 l0_3) else (spec_EarOk.j0 k true a0_0 a0_1 l0_2 l0_3))) else (spec_EarOk.j0 k true a0_0 a0_1 l0_2 l0_3))
theorem spec_EarOk.mono_l : ∀ k, (∀ y0 y1 y2 y3 y4, LeO (spec_EarOk.j0 k y0 y1 y2 y3 y4) (spec_EarOk.j0 (k + 1) y0 y1 y2 y3 y4)) ∧ (∀ y0 y1 y2 y3 y4, LeO (spec_EarOk.l0 k y0 y1 y2 y3 y4) (spec_EarOk.l0 (k + 1) y0 y1 y2 y3 y4))
  | 0 => ⟨fun _ _ _ _ _ r h => by simp [spec_EarOk.j0] at h, fun _ _ _ _ _ r h => by simp [spec_EarOk.l0] at h⟩
  | k + 1 => by
    obtain ⟨ih0, ih1⟩ := spec_EarOk.mono_l k
    refine ⟨?_, ?_⟩
    · intro y0 y1 y2 y3 y4
      unfold spec_EarOk.j0
      repeat' first
      | (with_reducible exact ih0 _ _ _ _ _)
      | (with_reducible exact ih1 _ _ _ _ _)
      | (with_reducible exact LeO.refl _)
      | (with_reducible exact LeO.none _)
      | (with_reducible refine LeO.ite ?_ ?_)
      | (with_reducible refine LeO.bind ?_ (fun _ => ?_))
      | exact ih0 _ _ _ _ _
      | exact ih1 _ _ _ _ _
      | exact LeO.none _
      | refine LeO.ite ?_ ?_
      | refine LeO.bind ?_ (fun _ => ?_)
    · intro y0 y1 y2 y3 y4
      unfold spec_EarOk.l0
      repeat' first
      | (with_reducible exact ih0 _ _ _ _ _)
      | (with_reducible exact ih1 _ _ _ _ _)
      | (with_reducible exact LeO.refl _)
      | (with_reducible exact LeO.none _)
      | (with_reducible refine LeO.ite ?_ ?_)
      | (with_reducible refine LeO.bind ?_ (fun _ => ?_))
      | exact ih0 _ _ _ _ _
      | exact ih1 _ _ _ _ _
      | exact LeO.none _
      | refine LeO.ite ?_ ?_
      | refine LeO.bind ?_ (fun _ => ?_)
theorem spec_EarOk.mono : ∀ a0 a1 a2 a3 k, LeO (spec_EarOk.f k a0 a1 a2 a3) (spec_EarOk.f (k + 1) a0 a1 a2 a3) := by
  intro a0 a1 a2 a3 k
  obtain ⟨ih0, ih1⟩ := spec_EarOk.mono_l k
  unfold spec_EarOk.f
  repeat' first
      | (with_reducible exact ih0 _ _ _ _ _)
      | (with_reducible exact ih1 _ _ _ _ _)
      | (with_reducible exact LeO.refl _)
      | (with_reducible exact LeO.none _)
      | (with_reducible refine LeO.ite ?_ ?_)
      | (with_reducible refine LeO.bind ?_ (fun _ => ?_))
      | exact ih0 _ _ _ _ _
      | exact ih1 _ _ _ _ _
      | exact LeO.none _
      | refine LeO.ite ?_ ?_
      | refine LeO.bind ?_ (fun _ => ?_)
set_option maxHeartbeats 8000000 in
set_option maxRecDepth 100000 in
theorem spec_EarOk.calls (k : Nat) (a0_0 : Int) (a0_1 : Int) (A0_2 : Option Addr) (c0_2 : Nat) (l0_2 : List Int) (A0_3 : Option Addr) (c0_3 : Nat) (l0_3 : List (S138)) (r : Bool) (w : World) (hr0_2 : Kd.C (Kd.int .u8) w A0_2 l0_2.length l0_2) (hc0_2 : l0_2.length ≤ c0_2) (hr0_3 : Kd.C k138 w A0_3 l0_3.length l0_3) (hc0_3 : l0_3.length ≤ c0_3) (h : spec_EarOk.f k a0_0 a0_1 l0_2 l0_3 = some r) :
    Calls Try.prog 110 #[.agg #[.int .i64 a0_0, .int .i64 a0_1, .slice A0_2 l0_2.length c0_2, .slice A0_3 l0_3.length c0_3]] w fun e w' => e = .returned (.bool r) ∧ Below w.heap.size w w' := by
  have hu30 := Try.underlying30
  have HR0_2 := Aside0.mk hr0_2
  have HC0_2 := Aside0.mk hc0_2
  clear hr0_2 hc0_2
  have HR0_3 := Aside0.mk hr0_3
  have HC0_3 := Aside0.mk hc0_3
  clear hr0_3 hc0_3
  have HB := Aside0.mk (Below.refl w.heap.size w)
  have H : ((spec_l1In.f a0_0 0 1000000).bind fun t172 => (if t172 = true then ((spec_l1In.f a0_1 1 32).bind fun t173 => (if t173 = true then (spec_EarOk.j0 k (decide ((l0_2.length : Int) > a0_1)) a0_0 a0_1 l0_2 l0_3) else (spec_EarOk.j0 k true a0_0 a0_1 l0_2 l0_3))) else (spec_EarOk.j0 k true a0_0 a0_1 l0_2 l0_3))) = some r := h
  clear h
  have HC2 := Aside0.mk H
  clear H
  go_enter Try.func110, Try.ntmps110
  go_upto_region 1 with (first | ((with_reducible refine gate_dst (N := 1) rfl ?_); (try (refine gate_guard (by rfl) ?_; dsimp only)); refine box_event ?hg (N := 1) ?hd (cs := #[.int .i64 a0_0, .int .i64 a0_1, .slice A0_2 l0_2.length c0_2, .slice A0_3 l0_3.length c0_3]) (t := 30) ?hr ?_; (case hd => rfl); (case hg => rfl); (case hr => first | (go_simp; done) | (go_simp; rfl)); intro gb171 hg w3 hbox hb; have n0_ := Aside0.mk (below_step (by repeat (first | (with_reducible first | exact HB.out | apply below_alloc | apply pw_below_drewN | apply below_drew1) | exact HB.out)) hb); have n1_ := Aside0.mk (hbox); have n2_ := Aside0.mk ((by rw [hg]; exact (below_size (by repeat (first | (with_reducible first | exact HB.out | apply below_alloc | apply pw_below_drewN | apply below_drew1) | exact HB.out))) : w.heap.size ≤ gb171)); have n3_ := Aside0.mk ((by rw [hg]; exact (below_size (by repeat (first | (with_reducible first | exact HB.out | apply below_alloc | apply pw_below_drewN | apply below_drew1) | exact HB.out))) : w.heap.size ≤ gb171)); clear HB; have HB := n0_; have BK171 := n1_; have GW171 := n2_; have GE171 := n3_; clear n0_ n1_ n2_ n3_; clear hb hbox hg))
  repeat (go_quiet (first | ((with_reducible refine gate_dst (N := 1) rfl ?_); (try (refine gate_guard (by rfl) ?_; dsimp only)); refine box_event ?hg (N := 1) ?hd (cs := #[.int .i64 a0_0, .int .i64 a0_1, .slice A0_2 l0_2.length c0_2, .slice A0_3 l0_3.length c0_3]) (t := 30) ?hr ?_; (case hd => rfl); (case hg => rfl); (case hr => first | (go_simp; done) | (go_simp; rfl)); intro gb171 hg w3 hbox hb; have n0_ := Aside0.mk (below_step (by repeat (first | (with_reducible first | exact HB.out | apply below_alloc | apply pw_below_drewN | apply below_drew1) | exact HB.out)) hb); have n1_ := Aside0.mk (hbox); have n2_ := Aside0.mk ((by rw [hg]; exact (below_size (by repeat (first | (with_reducible first | exact HB.out | apply below_alloc | apply pw_below_drewN | apply below_drew1) | exact HB.out))) : w.heap.size ≤ gb171)); have n3_ := Aside0.mk ((by rw [hg]; exact (below_size (by repeat (first | (with_reducible first | exact HB.out | apply below_alloc | apply pw_below_drewN | apply below_drew1) | exact HB.out))) : w.heap.size ≤ gb171)); clear HB; have HB := n0_; have BK171 := n1_; have GW171 := n2_; have GE171 := n3_; clear n0_ n1_ n2_ n3_; clear hb hbox hg)); go_upto_region 1 with (first | ((with_reducible refine gate_dst (N := 1) rfl ?_); (try (refine gate_guard (by rfl) ?_; dsimp only)); refine box_event ?hg (N := 1) ?hd (cs := #[.int .i64 a0_0, .int .i64 a0_1, .slice A0_2 l0_2.length c0_2, .slice A0_3 l0_3.length c0_3]) (t := 30) ?hr ?_; (case hd => rfl); (case hg => rfl); (case hr => first | (go_simp; done) | (go_simp; rfl)); intro gb171 hg w3 hbox hb; have n0_ := Aside0.mk (below_step (by repeat (first | (with_reducible first | exact HB.out | apply below_alloc | apply pw_below_drewN | apply below_drew1) | exact HB.out)) hb); have n1_ := Aside0.mk (hbox); have n2_ := Aside0.mk ((by rw [hg]; exact (below_size (by repeat (first | (with_reducible first | exact HB.out | apply below_alloc | apply pw_below_drewN | apply below_drew1) | exact HB.out))) : w.heap.size ≤ gb171)); have n3_ := Aside0.mk ((by rw [hg]; exact (below_size (by repeat (first | (with_reducible first | exact HB.out | apply below_alloc | apply pw_below_drewN | apply below_drew1) | exact HB.out))) : w.heap.size ≤ gb171)); clear HB; have HB := n0_; have BK171 := n1_; have GW171 := n2_; have GE171 := n3_; clear n0_ n1_ n2_ n3_; clear hb hbox hg)))
  (try simp only [Act.put, List.setIfInBounds_toArray, List.set_cons_zero, List.set_cons_succ])
  go_cut [21] (fun v21 wc => ∃ (kq : Nat) (x21_1 : Bool), v21 = .bool x21_1 ∧ Aside0 (spec_EarOk.j0 kq x21_1 a0_0 a0_1 l0_2 l0_3 = some r) ∧ Aside0 (kq ≤ k) ∧ Aside0 (wc.heap[gb171]? = some (.cells #[.int .i64 a0_0, .int .i64 a0_1, (.slice A0_2 l0_2.length c0_2), (.slice A0_3 l0_3.length c0_3)] 30 (0, 0))) ∧ Aside0 (Below w.heap.size w wc))
  case first =>
    have H := HC2.out
    clear HC2
    replace H := Option.bind_eq_some_iff.mp H
    obtain ⟨t172, A40, H⟩ := H
    replace H : (if t172 = true then ((spec_l1In.f a0_1 1 32).bind fun t173 => (if t173 = true then (spec_EarOk.j0 k (decide ((l0_2.length : Int) > a0_1)) a0_0 a0_1 l0_2 l0_3) else (spec_EarOk.j0 k true a0_0 a0_1 l0_2 l0_3))) else (spec_EarOk.j0 k true a0_0 a0_1 l0_2 l0_3)) = some r := H
    have A4 := Aside0.mk A40
    clear A40
    by_cases c5 : t172 = true
    · subst c5
      have H1 : ((spec_l1In.f a0_1 1 32).bind fun t173 => (if t173 = true then (spec_EarOk.j0 k (decide ((l0_2.length : Int) > a0_1)) a0_0 a0_1 l0_2 l0_3) else (spec_EarOk.j0 k true a0_0 a0_1 l0_2 l0_3))) = some r := by rw [if_pos rfl] at H; exact H
      clear H
      have H := H1
      clear H1
      replace H := Option.bind_eq_some_iff.mp H
      obtain ⟨t173, A60, H⟩ := H
      replace H : (if t173 = true then (spec_EarOk.j0 k (decide ((l0_2.length : Int) > a0_1)) a0_0 a0_1 l0_2 l0_3) else (spec_EarOk.j0 k true a0_0 a0_1 l0_2 l0_3)) = some r := H
      have A6 := Aside0.mk A60
      clear A60
      by_cases c7 : t173 = true
      · subst c7
        have H1 : (spec_EarOk.j0 k (decide ((l0_2.length : Int) > a0_1)) a0_0 a0_1 l0_2 l0_3) = some r := by rw [if_pos rfl] at H; exact H
        clear H
        have H := H1
        clear H1
        have H' := Aside0.mk H
        clear H
        have hcz8_0 : w3.cell? ⟨gb171, 0, none⟩ = some (.int .i64 a0_0) := (blk_cell BK171.out 0).trans rfl
        have hcz8_1 : w3.cell? ⟨gb171, 1, none⟩ = some (.int .i64 a0_1) := (blk_cell BK171.out 1).trans rfl
        have hcz8_2 : w3.cell? ⟨gb171, 2, none⟩ = some (.slice A0_2 l0_2.length c0_2) := (blk_cell BK171.out 2).trans rfl
        have hcz8_3 : w3.cell? ⟨gb171, 3, none⟩ = some (.slice A0_3 l0_3.length c0_3) := (blk_cell BK171.out 3).trans rfl
        have hfz8_0 := blk_frozen BK171.out 0
        have hfz8_1 := blk_frozen BK171.out 1
        have hfz8_2 := blk_frozen BK171.out 2
        have hfz8_3 := blk_frozen BK171.out 3
        go_wp2_with (first | (go_at_call 108; (with_reducible refine (spec_l1In.calls a0_0 0 1000000 true _ A4.out).mono ?_); rintro e w' ⟨rfl, ⟨nd, rfl⟩⟩; (try first | exact ⟨rfl, _, World.drewN_drewN _ _ _⟩ | exact ⟨rfl, _, Eq.trans (World.drewN_drewN _ _ _) (congrArg (World.drewN _) (Nat.add_assoc _ _ _))⟩)) | (go_at_call 108; (with_reducible refine (spec_l1In.calls a0_1 1 32 true _ A6.out).mono ?_); rintro e w' ⟨rfl, ⟨nd, rfl⟩⟩; (try first | exact ⟨rfl, _, World.drewN_drewN _ _ _⟩ | exact ⟨rfl, _, Eq.trans (World.drewN_drewN _ _ _) (congrArg (World.drewN _) (Nat.add_assoc _ _ _))⟩)))
        repeat (go_quiet (first | (go_at_call 108; (with_reducible refine (spec_l1In.calls a0_0 0 1000000 true _ A4.out).mono ?_); rintro e w' ⟨rfl, ⟨nd, rfl⟩⟩; (try first | exact ⟨rfl, _, World.drewN_drewN _ _ _⟩ | exact ⟨rfl, _, Eq.trans (World.drewN_drewN _ _ _) (congrArg (World.drewN _) (Nat.add_assoc _ _ _))⟩)) | (go_at_call 108; (with_reducible refine (spec_l1In.calls a0_1 1 32 true _ A6.out).mono ?_); rintro e w' ⟨rfl, ⟨nd, rfl⟩⟩; (try first | exact ⟨rfl, _, World.drewN_drewN _ _ _⟩ | exact ⟨rfl, _, Eq.trans (World.drewN_drewN _ _ _) (congrArg (World.drewN _) (Nat.add_assoc _ _ _))⟩))); try go_wp2_with (first | (go_at_call 108; (with_reducible refine (spec_l1In.calls a0_0 0 1000000 true _ A4.out).mono ?_); rintro e w' ⟨rfl, ⟨nd, rfl⟩⟩; (try first | exact ⟨rfl, _, World.drewN_drewN _ _ _⟩ | exact ⟨rfl, _, Eq.trans (World.drewN_drewN _ _ _) (congrArg (World.drewN _) (Nat.add_assoc _ _ _))⟩)) | (go_at_call 108; (with_reducible refine (spec_l1In.calls a0_1 1 32 true _ A6.out).mono ?_); rintro e w' ⟨rfl, ⟨nd, rfl⟩⟩; (try first | exact ⟨rfl, _, World.drewN_drewN _ _ _⟩ | exact ⟨rfl, _, Eq.trans (World.drewN_drewN _ _ _) (congrArg (World.drewN _) (Nat.add_assoc _ _ _))⟩))))
        go_meet
        case rel => exact ⟨_, (decide ((l0_2.length : Int) > a0_1)), (by first | rfl | (simp; done) | (simp [*]; done)), H', ⟨by first | omega | exact Nat.le_refl _⟩, ⟨by (with_reducible repeat (first | refine blk_drewN ?_ _ | refine blk_drew ?_ | refine blk_alloc ?_ _)); exact BK171.out⟩, ⟨by repeat (first | (with_reducible first | exact HB.out | apply below_alloc | apply pw_below_drewN | apply below_drew1 | refine below_set ?_ GE171.out) | exact HB.out)⟩⟩
      · replace c7 := Bool.eq_false_iff.mpr c7
        subst c7
        have H1 : (spec_EarOk.j0 k true a0_0 a0_1 l0_2 l0_3) = some r := by rw [if_neg (show ¬ (false = true) by decide)] at H; exact H
        clear H
        have H := H1
        clear H1
        have H' := Aside0.mk H
        clear H
        have hcz9_0 : w3.cell? ⟨gb171, 0, none⟩ = some (.int .i64 a0_0) := (blk_cell BK171.out 0).trans rfl
        have hcz9_1 : w3.cell? ⟨gb171, 1, none⟩ = some (.int .i64 a0_1) := (blk_cell BK171.out 1).trans rfl
        have hcz9_2 : w3.cell? ⟨gb171, 2, none⟩ = some (.slice A0_2 l0_2.length c0_2) := (blk_cell BK171.out 2).trans rfl
        have hcz9_3 : w3.cell? ⟨gb171, 3, none⟩ = some (.slice A0_3 l0_3.length c0_3) := (blk_cell BK171.out 3).trans rfl
        have hfz9_0 := blk_frozen BK171.out 0
        have hfz9_1 := blk_frozen BK171.out 1
        have hfz9_2 := blk_frozen BK171.out 2
        have hfz9_3 := blk_frozen BK171.out 3
        go_wp2_with (first | (go_at_call 108; (with_reducible refine (spec_l1In.calls a0_0 0 1000000 true _ A4.out).mono ?_); rintro e w' ⟨rfl, ⟨nd, rfl⟩⟩; (try first | exact ⟨rfl, _, World.drewN_drewN _ _ _⟩ | exact ⟨rfl, _, Eq.trans (World.drewN_drewN _ _ _) (congrArg (World.drewN _) (Nat.add_assoc _ _ _))⟩)) | (go_at_call 108; (with_reducible refine (spec_l1In.calls a0_1 1 32 false _ A6.out).mono ?_); rintro e w' ⟨rfl, ⟨nd, rfl⟩⟩; (try first | exact ⟨rfl, _, World.drewN_drewN _ _ _⟩ | exact ⟨rfl, _, Eq.trans (World.drewN_drewN _ _ _) (congrArg (World.drewN _) (Nat.add_assoc _ _ _))⟩)))
        repeat (go_quiet (first | (go_at_call 108; (with_reducible refine (spec_l1In.calls a0_0 0 1000000 true _ A4.out).mono ?_); rintro e w' ⟨rfl, ⟨nd, rfl⟩⟩; (try first | exact ⟨rfl, _, World.drewN_drewN _ _ _⟩ | exact ⟨rfl, _, Eq.trans (World.drewN_drewN _ _ _) (congrArg (World.drewN _) (Nat.add_assoc _ _ _))⟩)) | (go_at_call 108; (with_reducible refine (spec_l1In.calls a0_1 1 32 false _ A6.out).mono ?_); rintro e w' ⟨rfl, ⟨nd, rfl⟩⟩; (try first | exact ⟨rfl, _, World.drewN_drewN _ _ _⟩ | exact ⟨rfl, _, Eq.trans (World.drewN_drewN _ _ _) (congrArg (World.drewN _) (Nat.add_assoc _ _ _))⟩))); try go_wp2_with (first | (go_at_call 108; (with_reducible refine (spec_l1In.calls a0_0 0 1000000 true _ A4.out).mono ?_); rintro e w' ⟨rfl, ⟨nd, rfl⟩⟩; (try first | exact ⟨rfl, _, World.drewN_drewN _ _ _⟩ | exact ⟨rfl, _, Eq.trans (World.drewN_drewN _ _ _) (congrArg (World.drewN _) (Nat.add_assoc _ _ _))⟩)) | (go_at_call 108; (with_reducible refine (spec_l1In.calls a0_1 1 32 false _ A6.out).mono ?_); rintro e w' ⟨rfl, ⟨nd, rfl⟩⟩; (try first | exact ⟨rfl, _, World.drewN_drewN _ _ _⟩ | exact ⟨rfl, _, Eq.trans (World.drewN_drewN _ _ _) (congrArg (World.drewN _) (Nat.add_assoc _ _ _))⟩))))
        go_meet
        case rel => exact ⟨_, (true), (by first | rfl | (simp; done) | (simp [*]; done)), H', ⟨by first | omega | exact Nat.le_refl _⟩, ⟨by (with_reducible repeat (first | refine blk_drewN ?_ _ | refine blk_drew ?_ | refine blk_alloc ?_ _)); exact BK171.out⟩, ⟨by repeat (first | (with_reducible first | exact HB.out | apply below_alloc | apply pw_below_drewN | apply below_drew1 | refine below_set ?_ GE171.out) | exact HB.out)⟩⟩
    · replace c5 := Bool.eq_false_iff.mpr c5
      subst c5
      have H1 : (spec_EarOk.j0 k true a0_0 a0_1 l0_2 l0_3) = some r := by rw [if_neg (show ¬ (false = true) by decide)] at H; exact H
      clear H
      have H := H1
      clear H1
      have H' := Aside0.mk H
      clear H
      have hcz10_0 : w3.cell? ⟨gb171, 0, none⟩ = some (.int .i64 a0_0) := (blk_cell BK171.out 0).trans rfl
      have hcz10_1 : w3.cell? ⟨gb171, 1, none⟩ = some (.int .i64 a0_1) := (blk_cell BK171.out 1).trans rfl
      have hcz10_2 : w3.cell? ⟨gb171, 2, none⟩ = some (.slice A0_2 l0_2.length c0_2) := (blk_cell BK171.out 2).trans rfl
      have hcz10_3 : w3.cell? ⟨gb171, 3, none⟩ = some (.slice A0_3 l0_3.length c0_3) := (blk_cell BK171.out 3).trans rfl
      have hfz10_0 := blk_frozen BK171.out 0
      have hfz10_1 := blk_frozen BK171.out 1
      have hfz10_2 := blk_frozen BK171.out 2
      have hfz10_3 := blk_frozen BK171.out 3
      go_wp2_with (first | (go_at_call 108; (with_reducible refine (spec_l1In.calls a0_0 0 1000000 false _ A4.out).mono ?_); rintro e w' ⟨rfl, ⟨nd, rfl⟩⟩; (try first | exact ⟨rfl, _, World.drewN_drewN _ _ _⟩ | exact ⟨rfl, _, Eq.trans (World.drewN_drewN _ _ _) (congrArg (World.drewN _) (Nat.add_assoc _ _ _))⟩)))
      repeat (go_quiet (first | (go_at_call 108; (with_reducible refine (spec_l1In.calls a0_0 0 1000000 false _ A4.out).mono ?_); rintro e w' ⟨rfl, ⟨nd, rfl⟩⟩; (try first | exact ⟨rfl, _, World.drewN_drewN _ _ _⟩ | exact ⟨rfl, _, Eq.trans (World.drewN_drewN _ _ _) (congrArg (World.drewN _) (Nat.add_assoc _ _ _))⟩))); try go_wp2_with (first | (go_at_call 108; (with_reducible refine (spec_l1In.calls a0_0 0 1000000 false _ A4.out).mono ?_); rintro e w' ⟨rfl, ⟨nd, rfl⟩⟩; (try first | exact ⟨rfl, _, World.drewN_drewN _ _ _⟩ | exact ⟨rfl, _, Eq.trans (World.drewN_drewN _ _ _) (congrArg (World.drewN _) (Nat.add_assoc _ _ _))⟩))))
      go_meet
      case rel => exact ⟨_, (true), (by first | rfl | (simp; done) | (simp [*]; done)), H', ⟨by first | omega | exact Nat.le_refl _⟩, ⟨by (with_reducible repeat (first | refine blk_drewN ?_ _ | refine blk_drew ?_ | refine blk_alloc ?_ _)); exact BK171.out⟩, ⟨by repeat (first | (with_reducible first | exact HB.out | apply below_alloc | apply pw_below_drewN | apply below_drew1 | refine below_set ?_ GE171.out) | exact HB.out)⟩⟩
  case rest =>
    clear HC2
    try clear c1
    try clear p2
    try clear c5
    try clear c7
    try clear hcz10_0
    try clear hcz10_1
    try clear hcz10_2
    try clear hcz10_3
    try clear hcz8_0
    try clear hcz8_1
    try clear hcz8_2
    try clear hcz8_3
    try clear hcz9_0
    try clear hcz9_1
    try clear hcz9_2
    try clear hcz9_3
    try clear hfz10_0
    try clear hfz10_1
    try clear hfz10_2
    try clear hfz10_3
    try clear hfz8_0
    try clear hfz8_1
    try clear hfz8_2
    try clear hfz8_3
    try clear hfz9_0
    try clear hfz9_1
    try clear hfz9_2
    try clear hfz9_3
    obtain ⟨kq, x21_1, rfl, HA, HJ1, BK171, HB⟩ := hcut
    cases kq with
    | zero => exact absurd HA.out (by simp [spec_EarOk.j0])
    | succ kj1 =>
      have H := HA.out
      clear HA
      simp only [spec_EarOk.j0] at H
      by_cases c11 : x21_1 = true
      · subst c11
        have H1 : (some false) = some r := by rw [if_pos rfl] at H; exact H
        clear H
        have H := H1
        clear H1
        obtain rfl := Option.some.inj H
        go_wp2
        repeat (go_quiet (fail); try go_wp2)
        go_ret
        exact ⟨by first | rfl | (simp [errW_none, errW_some] <;> rfl) | (simp [*, errW_none, errW_some] <;> rfl), by repeat (first | (with_reducible first | exact HB.out | apply below_alloc | apply pw_below_drewN | apply below_drew1 | refine below_set ?_ GE171.out) | exact HB.out)⟩
      · replace c11 := Bool.eq_false_iff.mpr c11
        subst c11
        have H1 : (spec_EarOk.l0 kj1 0 a0_0 a0_1 l0_2 l0_3) = some r := by rw [if_neg (show ¬ (false = true) by decide)] at H; exact H
        clear H
        have H := H1
        clear H1
        have H' := Aside0.mk H
        clear H
        go_wp2
        repeat (go_quiet (fail); try go_wp2)
        go_loopg [3] kj1 (fun kq v3 w' => ∃ (x3_2 : Int), v3 = .int .i64 x3_2 ∧ Aside0 (spec_EarOk.l0 kq x3_2 a0_0 a0_1 l0_2 l0_3 = some r) ∧ Aside0 (kq ≤ kj1) ∧ Aside0 (w'.heap[gb171]? = some (.cells #[.int .i64 a0_0, .int .i64 a0_1, (.slice A0_2 l0_2.length c0_2), (.slice A0_3 l0_3.length c0_3)] 30 (0, 0))) ∧ Aside0 (Below w.heap.size w w'))
        case atStart => exact ⟨(0), (by first | rfl | (simp; done) | (simp [*]; done)), H', ⟨Nat.le_refl _⟩, ⟨by (with_reducible repeat (first | refine blk_drewN ?_ _ | refine blk_drew ?_ | refine blk_alloc ?_ _)); exact BK171.out⟩, ⟨by repeat (first | (with_reducible first | exact HB.out | apply below_alloc | apply pw_below_drewN | apply below_drew1 | refine below_set ?_ GE171.out) | exact HB.out)⟩⟩
        case round =>
          clear H'
          try clear c1
          try clear p2
          try clear c5
          try clear c7
          try clear c11
          try clear hcz10_0
          try clear hcz10_1
          try clear hcz10_2
          try clear hcz10_3
          try clear hcz8_0
          try clear hcz8_1
          try clear hcz8_2
          try clear hcz8_3
          try clear hcz9_0
          try clear hcz9_1
          try clear hcz9_2
          try clear hcz9_3
          try clear hfz10_0
          try clear hfz10_1
          try clear hfz10_2
          try clear hfz10_3
          try clear hfz8_0
          try clear hfz8_1
          try clear hfz8_2
          try clear hfz8_3
          try clear hfz9_0
          try clear hfz9_1
          try clear hfz9_2
          try clear hfz9_3
          try clear p2
          obtain ⟨x3_2, rfl, HA, HK2, BK171, HB⟩ := hrel
          cases gk with
          | zero => exact absurd HA.out (by simp [spec_EarOk.l0])
          | succ k2 =>
            have H := HA.out
            clear HA
            simp only [spec_EarOk.l0] at H
            by_cases c12 : x3_2 < (l0_3.length : Int)
            · rw [if_pos c12] at H
              have c12b0 : decide (x3_2 < (l0_3.length : Int)) = true := decide_eq_true c12
              clear c12
              by_cases c13 : 0 ≤ x3_2
              · rw [if_pos c13] at H
                have c13b0 : decide (0 ≤ x3_2) = true := decide_eq_true c13
                clear c13
                by_cases c14 : ((rd_T138 l0_3 x3_2).f0) ≤ a0_0
                · rw [if_pos c14] at H
                  have c14b0 : decide (((rd_T138 l0_3 x3_2).f0) ≤ a0_0) = true := decide_eq_true c14
                  clear c14
                  obtain rfl := Option.some.inj H
                  have hcz15_0 : wr.cell? ⟨gb171, 0, none⟩ = some (.int .i64 a0_0) := (blk_cell BK171.out 0).trans rfl
                  have hcz15_1 : wr.cell? ⟨gb171, 1, none⟩ = some (.int .i64 a0_1) := (blk_cell BK171.out 1).trans rfl
                  have hcz15_2 : wr.cell? ⟨gb171, 2, none⟩ = some (.slice A0_2 l0_2.length c0_2) := (blk_cell BK171.out 2).trans rfl
                  have hcz15_3 : wr.cell? ⟨gb171, 3, none⟩ = some (.slice A0_3 l0_3.length c0_3) := (blk_cell BK171.out 3).trans rfl
                  have hfz15_0 := blk_frozen BK171.out 0
                  have hfz15_1 := blk_frozen BK171.out 1
                  have hfz15_2 := blk_frozen BK171.out 2
                  have hfz15_3 := blk_frozen BK171.out 3
                  have p174 : 0 ≤ (x3_2 : Int) := of_decide_eq_true (by first | (with_reducible assumption) | assumption)
                  have q174 : x3_2 < (l0_3.length : Int) := of_decide_eq_true (by first | (with_reducible assumption) | assumption)
                  obtain ⟨ad174, e174, hx174_0, hx174_1⟩ := at_T138 HR0_3.out x3_2 p174 q174
                  cases e174
                  replace hx174_0 := (HB.out.cell (World.block_lt_of_cell? w _ hx174_0)).trans hx174_0
                  replace hx174_1 := (HB.out.cell (World.block_lt_of_cell? w _ hx174_1)).trans hx174_1
                  replace p174 := eq_true p174
                  replace q174 := eq_true q174
                  go_wp2
                  repeat (go_quiet (fail); try go_wp2)
                  go_ret
                  exact ⟨by first | rfl | (simp [errW_none, errW_some] <;> rfl) | (simp [*, errW_none, errW_some] <;> rfl), by repeat (first | (with_reducible first | exact HB.out | apply below_alloc | apply pw_below_drewN | apply below_drew1 | refine below_set ?_ GE171.out) | exact HB.out)⟩
                · rw [if_neg c14] at H
                  have c14b0 : decide (((rd_T138 l0_3 x3_2).f0) ≤ a0_0) = false := decide_eq_false c14
                  clear c14
                  by_cases c16 : ((rd_T138 l0_3 x3_2).f0) ≥ (wrap64 ((wrap64 (a0_0 + a0_1)) - (l0_2.length : Int)))
                  · rw [if_pos c16] at H
                    have c16b0 : decide ((wrap64 ((wrap64 (a0_0 + a0_1)) - (l0_2.length : Int))) ≤ ((rd_T138 l0_3 x3_2).f0)) = true := decide_eq_true c16
                    clear c16
                    obtain rfl := Option.some.inj H
                    have hcz17_0 : wr.cell? ⟨gb171, 0, none⟩ = some (.int .i64 a0_0) := (blk_cell BK171.out 0).trans rfl
                    have hcz17_1 : wr.cell? ⟨gb171, 1, none⟩ = some (.int .i64 a0_1) := (blk_cell BK171.out 1).trans rfl
                    have hcz17_2 : wr.cell? ⟨gb171, 2, none⟩ = some (.slice A0_2 l0_2.length c0_2) := (blk_cell BK171.out 2).trans rfl
                    have hcz17_3 : wr.cell? ⟨gb171, 3, none⟩ = some (.slice A0_3 l0_3.length c0_3) := (blk_cell BK171.out 3).trans rfl
                    have hfz17_0 := blk_frozen BK171.out 0
                    have hfz17_1 := blk_frozen BK171.out 1
                    have hfz17_2 := blk_frozen BK171.out 2
                    have hfz17_3 := blk_frozen BK171.out 3
                    have p174 : 0 ≤ (x3_2 : Int) := of_decide_eq_true (by first | (with_reducible assumption) | assumption)
                    have q174 : x3_2 < (l0_3.length : Int) := of_decide_eq_true (by first | (with_reducible assumption) | assumption)
                    obtain ⟨ad174, e174, hx174_0, hx174_1⟩ := at_T138 HR0_3.out x3_2 p174 q174
                    cases e174
                    replace hx174_0 := (HB.out.cell (World.block_lt_of_cell? w _ hx174_0)).trans hx174_0
                    replace hx174_1 := (HB.out.cell (World.block_lt_of_cell? w _ hx174_1)).trans hx174_1
                    replace p174 := eq_true p174
                    replace q174 := eq_true q174
                    have p175 : 0 ≤ (x3_2 : Int) := of_decide_eq_true (by first | (with_reducible assumption) | assumption)
                    have q175 : x3_2 < (l0_3.length : Int) := of_decide_eq_true (by first | (with_reducible assumption) | assumption)
                    obtain ⟨ad175, e175, hx175_0, hx175_1⟩ := at_T138 HR0_3.out x3_2 p175 q175
                    obtain rfl : ad174 = ad175 := (by injection e175)
                    replace hx175_0 := (HB.out.cell (World.block_lt_of_cell? w _ hx175_0)).trans hx175_0
                    replace hx175_1 := (HB.out.cell (World.block_lt_of_cell? w _ hx175_1)).trans hx175_1
                    replace p175 := eq_true p175
                    replace q175 := eq_true q175
                    go_wp2
                    repeat (go_quiet (fail); try go_wp2)
                    go_ret
                    exact ⟨by first | rfl | (simp [errW_none, errW_some] <;> rfl) | (simp [*, errW_none, errW_some] <;> rfl), by repeat (first | (with_reducible first | exact HB.out | apply below_alloc | apply pw_below_drewN | apply below_drew1 | refine below_set ?_ GE171.out) | exact HB.out)⟩
                  · rw [if_neg c16] at H
                    have c16b0 : decide ((wrap64 ((wrap64 (a0_0 + a0_1)) - (l0_2.length : Int))) ≤ ((rd_T138 l0_3 x3_2).f0)) = false := decide_eq_false c16
                    clear c16
                    by_cases c18 : x3_2 > 0
                    · rw [if_pos c18] at H
                      have c18b0 : decide (0 < x3_2) = true := decide_eq_true c18
                      clear c18
                      obtain ⟨ji19, hji19⟩ : ∃ j_ : Int, (wrap64 (x3_2 - 1)) = j_ := ⟨_, rfl⟩
                      replace H : (if 0 ≤ (ji19) then (if (ji19) < (l0_3.length : Int) then (if ((rd_T138 l0_3 (ji19)).f0) ≥ ((rd_T138 l0_3 x3_2).f0) then (some false) else (spec_EarOk.l0 k2 (wrap64 (x3_2 + 1)) a0_0 a0_1 l0_2 l0_3)) else (none)) else (none)) = some r := by first | (rw [hji19] at H; exact H) | (simp only [hji19] at H ⊢; exact H)
                      have hji19w : (IntKind.i64.wrap (x3_2 - 1)) = ji19 := (i64_w _).trans hji19
                      by_cases c20 : 0 ≤ (ji19)
                      · rw [if_pos c20] at H
                        have c20b0 : decide (0 ≤ (ji19)) = true := decide_eq_true c20
                        clear c20
                        by_cases c21 : (ji19) < (l0_3.length : Int)
                        · rw [if_pos c21] at H
                          have c21b0 : decide ((ji19) < (l0_3.length : Int)) = true := decide_eq_true c21
                          clear c21
                          by_cases c22 : ((rd_T138 l0_3 (ji19)).f0) ≥ ((rd_T138 l0_3 x3_2).f0)
                          · rw [if_pos c22] at H
                            have c22b0 : decide (((rd_T138 l0_3 x3_2).f0) ≤ ((rd_T138 l0_3 (ji19)).f0)) = true := decide_eq_true c22
                            clear c22
                            obtain rfl := Option.some.inj H
                            have hcz23_0 : wr.cell? ⟨gb171, 0, none⟩ = some (.int .i64 a0_0) := (blk_cell BK171.out 0).trans rfl
                            have hcz23_1 : wr.cell? ⟨gb171, 1, none⟩ = some (.int .i64 a0_1) := (blk_cell BK171.out 1).trans rfl
                            have hcz23_2 : wr.cell? ⟨gb171, 2, none⟩ = some (.slice A0_2 l0_2.length c0_2) := (blk_cell BK171.out 2).trans rfl
                            have hcz23_3 : wr.cell? ⟨gb171, 3, none⟩ = some (.slice A0_3 l0_3.length c0_3) := (blk_cell BK171.out 3).trans rfl
                            have hfz23_0 := blk_frozen BK171.out 0
                            have hfz23_1 := blk_frozen BK171.out 1
                            have hfz23_2 := blk_frozen BK171.out 2
                            have hfz23_3 := blk_frozen BK171.out 3
                            have p174 : 0 ≤ (x3_2 : Int) := of_decide_eq_true (by first | (with_reducible assumption) | assumption)
                            have q174 : x3_2 < (l0_3.length : Int) := of_decide_eq_true (by first | (with_reducible assumption) | assumption)
                            obtain ⟨ad174, e174, hx174_0, hx174_1⟩ := at_T138 HR0_3.out x3_2 p174 q174
                            cases e174
                            replace hx174_0 := (HB.out.cell (World.block_lt_of_cell? w _ hx174_0)).trans hx174_0
                            replace hx174_1 := (HB.out.cell (World.block_lt_of_cell? w _ hx174_1)).trans hx174_1
                            replace p174 := eq_true p174
                            replace q174 := eq_true q174
                            have p175 : 0 ≤ (x3_2 : Int) := of_decide_eq_true (by first | (with_reducible assumption) | assumption)
                            have q175 : x3_2 < (l0_3.length : Int) := of_decide_eq_true (by first | (with_reducible assumption) | assumption)
                            obtain ⟨ad175, e175, hx175_0, hx175_1⟩ := at_T138 HR0_3.out x3_2 p175 q175
                            obtain rfl : ad174 = ad175 := (by injection e175)
                            replace hx175_0 := (HB.out.cell (World.block_lt_of_cell? w _ hx175_0)).trans hx175_0
                            replace hx175_1 := (HB.out.cell (World.block_lt_of_cell? w _ hx175_1)).trans hx175_1
                            replace p175 := eq_true p175
                            replace q175 := eq_true q175
                            have p176 : 0 ≤ ((ji19) : Int) := of_decide_eq_true (by first | (with_reducible assumption) | assumption)
                            have q176 : (ji19) < (l0_3.length : Int) := of_decide_eq_true (by first | (with_reducible assumption) | assumption)
                            obtain ⟨ad176, e176, hx176_0, hx176_1⟩ := at_T138 HR0_3.out (ji19) p176 q176
                            obtain rfl : ad174 = ad176 := (by injection e176)
                            replace hx176_0 := (HB.out.cell (World.block_lt_of_cell? w _ hx176_0)).trans hx176_0
                            replace hx176_1 := (HB.out.cell (World.block_lt_of_cell? w _ hx176_1)).trans hx176_1
                            replace p176 := eq_true p176
                            replace q176 := eq_true q176
                            have p177 : 0 ≤ (x3_2 : Int) := of_decide_eq_true (by first | (with_reducible assumption) | assumption)
                            have q177 : x3_2 < (l0_3.length : Int) := of_decide_eq_true (by first | (with_reducible assumption) | assumption)
                            obtain ⟨ad177, e177, hx177_0, hx177_1⟩ := at_T138 HR0_3.out x3_2 p177 q177
                            obtain rfl : ad174 = ad177 := (by injection e177)
                            replace hx177_0 := (HB.out.cell (World.block_lt_of_cell? w _ hx177_0)).trans hx177_0
                            replace hx177_1 := (HB.out.cell (World.block_lt_of_cell? w _ hx177_1)).trans hx177_1
                            replace p177 := eq_true p177
                            replace q177 := eq_true q177
                            go_wp2
                            repeat (go_quiet (fail); try go_wp2)
                            go_ret
                            exact ⟨by first | rfl | (simp [errW_none, errW_some] <;> rfl) | (simp only [← hji19]; first | rfl | (simp [errW_none, errW_some] <;> rfl)) | (simp [*, errW_none, errW_some] <;> rfl), by repeat (first | (with_reducible first | exact HB.out | apply below_alloc | apply pw_below_drewN | apply below_drew1 | refine below_set ?_ GE171.out) | exact HB.out)⟩
                          · rw [if_neg c22] at H
                            have c22b0 : decide (((rd_T138 l0_3 x3_2).f0) ≤ ((rd_T138 l0_3 (ji19)).f0)) = false := decide_eq_false c22
                            clear c22
                            have H' := Aside0.mk H
                            clear H
                            have hcz24_0 : wr.cell? ⟨gb171, 0, none⟩ = some (.int .i64 a0_0) := (blk_cell BK171.out 0).trans rfl
                            have hcz24_1 : wr.cell? ⟨gb171, 1, none⟩ = some (.int .i64 a0_1) := (blk_cell BK171.out 1).trans rfl
                            have hcz24_2 : wr.cell? ⟨gb171, 2, none⟩ = some (.slice A0_2 l0_2.length c0_2) := (blk_cell BK171.out 2).trans rfl
                            have hcz24_3 : wr.cell? ⟨gb171, 3, none⟩ = some (.slice A0_3 l0_3.length c0_3) := (blk_cell BK171.out 3).trans rfl
                            have hfz24_0 := blk_frozen BK171.out 0
                            have hfz24_1 := blk_frozen BK171.out 1
                            have hfz24_2 := blk_frozen BK171.out 2
                            have hfz24_3 := blk_frozen BK171.out 3
                            have p174 : 0 ≤ (x3_2 : Int) := of_decide_eq_true (by first | (with_reducible assumption) | assumption)
                            have q174 : x3_2 < (l0_3.length : Int) := of_decide_eq_true (by first | (with_reducible assumption) | assumption)
                            obtain ⟨ad174, e174, hx174_0, hx174_1⟩ := at_T138 HR0_3.out x3_2 p174 q174
                            cases e174
                            replace hx174_0 := (HB.out.cell (World.block_lt_of_cell? w _ hx174_0)).trans hx174_0
                            replace hx174_1 := (HB.out.cell (World.block_lt_of_cell? w _ hx174_1)).trans hx174_1
                            replace p174 := eq_true p174
                            replace q174 := eq_true q174
                            have p175 : 0 ≤ (x3_2 : Int) := of_decide_eq_true (by first | (with_reducible assumption) | assumption)
                            have q175 : x3_2 < (l0_3.length : Int) := of_decide_eq_true (by first | (with_reducible assumption) | assumption)
                            obtain ⟨ad175, e175, hx175_0, hx175_1⟩ := at_T138 HR0_3.out x3_2 p175 q175
                            obtain rfl : ad174 = ad175 := (by injection e175)
                            replace hx175_0 := (HB.out.cell (World.block_lt_of_cell? w _ hx175_0)).trans hx175_0
                            replace hx175_1 := (HB.out.cell (World.block_lt_of_cell? w _ hx175_1)).trans hx175_1
                            replace p175 := eq_true p175
                            replace q175 := eq_true q175
                            have p176 : 0 ≤ ((ji19) : Int) := of_decide_eq_true (by first | (with_reducible assumption) | assumption)
                            have q176 : (ji19) < (l0_3.length : Int) := of_decide_eq_true (by first | (with_reducible assumption) | assumption)
                            obtain ⟨ad176, e176, hx176_0, hx176_1⟩ := at_T138 HR0_3.out (ji19) p176 q176
                            obtain rfl : ad174 = ad176 := (by injection e176)
                            replace hx176_0 := (HB.out.cell (World.block_lt_of_cell? w _ hx176_0)).trans hx176_0
                            replace hx176_1 := (HB.out.cell (World.block_lt_of_cell? w _ hx176_1)).trans hx176_1
                            replace p176 := eq_true p176
                            replace q176 := eq_true q176
                            have p177 : 0 ≤ (x3_2 : Int) := of_decide_eq_true (by first | (with_reducible assumption) | assumption)
                            have q177 : x3_2 < (l0_3.length : Int) := of_decide_eq_true (by first | (with_reducible assumption) | assumption)
                            obtain ⟨ad177, e177, hx177_0, hx177_1⟩ := at_T138 HR0_3.out x3_2 p177 q177
                            obtain rfl : ad174 = ad177 := (by injection e177)
                            replace hx177_0 := (HB.out.cell (World.block_lt_of_cell? w _ hx177_0)).trans hx177_0
                            replace hx177_1 := (HB.out.cell (World.block_lt_of_cell? w _ hx177_1)).trans hx177_1
                            replace p177 := eq_true p177
                            replace q177 := eq_true q177
                            go_wp2
                            repeat (go_quiet (fail); try go_wp2)
                            go_roundg k2
                            case measure => have := HJ1.out; have := HK2.out; omega
                            case rel => exact ⟨(wrap64 (x3_2 + 1)), (by first | rfl | (simp; done) | (simp [*]; done)), H', ⟨by have := HJ1.out; have := HK2.out; omega⟩, ⟨by (with_reducible repeat (first | refine blk_drewN ?_ _ | refine blk_drew ?_ | refine blk_alloc ?_ _)); exact BK171.out⟩, ⟨by repeat (first | (with_reducible first | exact HB.out | apply below_alloc | apply pw_below_drewN | apply below_drew1 | refine below_set ?_ GE171.out) | exact HB.out)⟩⟩
                        · rw [if_neg c21] at H
                          exact absurd H (by simp)
                      · rw [if_neg c20] at H
                        exact absurd H (by simp)
                    · rw [if_neg c18] at H
                      have c18b0 : decide (0 < x3_2) = false := decide_eq_false c18
                      clear c18
                      have H' := Aside0.mk H
                      clear H
                      have hcz25_0 : wr.cell? ⟨gb171, 0, none⟩ = some (.int .i64 a0_0) := (blk_cell BK171.out 0).trans rfl
                      have hcz25_1 : wr.cell? ⟨gb171, 1, none⟩ = some (.int .i64 a0_1) := (blk_cell BK171.out 1).trans rfl
                      have hcz25_2 : wr.cell? ⟨gb171, 2, none⟩ = some (.slice A0_2 l0_2.length c0_2) := (blk_cell BK171.out 2).trans rfl
                      have hcz25_3 : wr.cell? ⟨gb171, 3, none⟩ = some (.slice A0_3 l0_3.length c0_3) := (blk_cell BK171.out 3).trans rfl
                      have hfz25_0 := blk_frozen BK171.out 0
                      have hfz25_1 := blk_frozen BK171.out 1
                      have hfz25_2 := blk_frozen BK171.out 2
                      have hfz25_3 := blk_frozen BK171.out 3
                      have p174 : 0 ≤ (x3_2 : Int) := of_decide_eq_true (by first | (with_reducible assumption) | assumption)
                      have q174 : x3_2 < (l0_3.length : Int) := of_decide_eq_true (by first | (with_reducible assumption) | assumption)
                      obtain ⟨ad174, e174, hx174_0, hx174_1⟩ := at_T138 HR0_3.out x3_2 p174 q174
                      cases e174
                      replace hx174_0 := (HB.out.cell (World.block_lt_of_cell? w _ hx174_0)).trans hx174_0
                      replace hx174_1 := (HB.out.cell (World.block_lt_of_cell? w _ hx174_1)).trans hx174_1
                      replace p174 := eq_true p174
                      replace q174 := eq_true q174
                      have p175 : 0 ≤ (x3_2 : Int) := of_decide_eq_true (by first | (with_reducible assumption) | assumption)
                      have q175 : x3_2 < (l0_3.length : Int) := of_decide_eq_true (by first | (with_reducible assumption) | assumption)
                      obtain ⟨ad175, e175, hx175_0, hx175_1⟩ := at_T138 HR0_3.out x3_2 p175 q175
                      obtain rfl : ad174 = ad175 := (by injection e175)
                      replace hx175_0 := (HB.out.cell (World.block_lt_of_cell? w _ hx175_0)).trans hx175_0
                      replace hx175_1 := (HB.out.cell (World.block_lt_of_cell? w _ hx175_1)).trans hx175_1
                      replace p175 := eq_true p175
                      replace q175 := eq_true q175
                      go_wp2
                      repeat (go_quiet (fail); try go_wp2)
                      go_roundg k2
                      case measure => have := HJ1.out; have := HK2.out; omega
                      case rel => exact ⟨(wrap64 (x3_2 + 1)), (by first | rfl | (simp; done) | (simp [*]; done)), H', ⟨by have := HJ1.out; have := HK2.out; omega⟩, ⟨by (with_reducible repeat (first | refine blk_drewN ?_ _ | refine blk_drew ?_ | refine blk_alloc ?_ _)); exact BK171.out⟩, ⟨by repeat (first | (with_reducible first | exact HB.out | apply below_alloc | apply pw_below_drewN | apply below_drew1 | refine below_set ?_ GE171.out) | exact HB.out)⟩⟩
              · rw [if_neg c13] at H
                exact absurd H (by simp)
            · rw [if_neg c12] at H
              have c12b0 : decide (x3_2 < (l0_3.length : Int)) = false := decide_eq_false c12
              clear c12
              obtain rfl := Option.some.inj H
              have hcz26_0 : wr.cell? ⟨gb171, 0, none⟩ = some (.int .i64 a0_0) := (blk_cell BK171.out 0).trans rfl
              have hcz26_1 : wr.cell? ⟨gb171, 1, none⟩ = some (.int .i64 a0_1) := (blk_cell BK171.out 1).trans rfl
              have hcz26_2 : wr.cell? ⟨gb171, 2, none⟩ = some (.slice A0_2 l0_2.length c0_2) := (blk_cell BK171.out 2).trans rfl
              have hcz26_3 : wr.cell? ⟨gb171, 3, none⟩ = some (.slice A0_3 l0_3.length c0_3) := (blk_cell BK171.out 3).trans rfl
              have hfz26_0 := blk_frozen BK171.out 0
              have hfz26_1 := blk_frozen BK171.out 1
              have hfz26_2 := blk_frozen BK171.out 2
              have hfz26_3 := blk_frozen BK171.out 3
              go_wp2
              repeat (go_quiet (fail); try go_wp2)
              go_ret
              exact ⟨by first | rfl | (simp [errW_none, errW_some] <;> rfl) | (simp [*, errW_none, errW_some] <;> rfl), by repeat (first | (with_reducible first | exact HB.out | apply below_alloc | apply pw_below_drewN | apply below_drew1 | refine below_set ?_ GE171.out) | exact HB.out)⟩
/-! ### spec_EarRanges: function 188 -/
mutual
def spec_EarRanges.l0 : Nat → List (S108) → Int → Int → Int → List Int → List (S138) → Option ((List (S108)))
  | 0, _, _, _, _, _, _ => none
  | k + 1, x3, x4, x258000, x258001, x258002, x258003 => if x4 < (x258003.length : Int) then (if (wrap64 ((x3.length : Int) - 1)) ≥ 0 then (if 0 ≤ (wrap64 ((x3.length : Int) - 1)) then (if (wrap64 ((x3.length : Int) - 1)) < (x3.length : Int) then (if 0 ≤ x4 then (spec_EarRanges.j1 k x3 x4 (wrap64 ((x3.length : Int) - 1)) (((rd_T108 x3 (wrap64 ((x3.length : Int) - 1))).f1) == ((rd_T138 x258003 x4).f0)) x258000 x258001 x258002 x258003) else (none)) else (none)) else (none)) else (spec_EarRanges.j1 k x3 x4 (wrap64 ((x3.length : Int) - 1)) false x258000 x258001 x258002 x258003)) else (some x3)
def spec_EarRanges.j1 : Nat → List (S108) → Int → Int → Bool → Int → Int → List Int → List (S138) → Option ((List (S108)))
  | 0, _, _, _, _, _, _, _, _ => none
  | k + 1, x3, x4, x5, x36, x258000, x258001, x258002, x258003 => if x36 = true then (if 0 ≤ x5 then (if x5 < (x3.length : Int) then (spec_EarRanges.l0 k (x3.set (x5 : Int).toNat (⟨(rd_T108 x3 x5).f0, wrap64 (((rd_T108 x3 x5).f1) + 1)⟩ : S108)) (wrap64 (x4 + 1)) x258000 x258001 x258002 x258003) else (none)) else (none)) else (if (x3.length : Int) < 2 then (if 0 ≤ x4 then (if x4 < (x258003.length : Int) then (if x3.length < 8796093022208 then (spec_EarRanges.l0 k (x3 ++ [(⟨(rd_T138 x258003 x4).f0, wrap64 (((rd_T138 x258003 x4).f0) + 1)⟩ : S108)]) (wrap64 (x4 + 1)) x258000 x258001 x258002 x258003) else (none)) else (none)) else (none)) else (spec_EarRanges.l0 k x3 (wrap64 (x4 + 1)) x258000 x258001 x258002 x258003))
end
def spec_EarRanges.f (k : Nat) (a0_0 : Int) (a0_1 : Int) (l0_2 : List Int) (l0_3 : List (S138)) : Option ((List (S108))) := (some (([] : List (S108)) : List (S108))).bind fun y258 => ((spec_EarOk.f k a0_0 a0_1 l0_2 l0_3).bind fun t261 => (if t261 = true then (spec_EarRanges.l0 k y258 0 a0_0 a0_1 l0_2 l0_3) else (some y258)))
theorem spec_EarRanges.mono_l : ∀ k, (∀ y0 y1 y2 y3 y4 y5, LeO (spec_EarRanges.l0 k y0 y1 y2 y3 y4 y5) (spec_EarRanges.l0 (k + 1) y0 y1 y2 y3 y4 y5)) ∧ (∀ y0 y1 y2 y3 y4 y5 y6 y7, LeO (spec_EarRanges.j1 k y0 y1 y2 y3 y4 y5 y6 y7) (spec_EarRanges.j1 (k + 1) y0 y1 y2 y3 y4 y5 y6 y7))
  | 0 => ⟨fun _ _ _ _ _ _ r h => by simp [spec_EarRanges.l0] at h, fun _ _ _ _ _ _ _ _ r h => by simp [spec_EarRanges.j1] at h⟩
  | k + 1 => by
    obtain ⟨ih0, ih1⟩ := spec_EarRanges.mono_l k
    refine ⟨?_, ?_⟩
    · intro y0 y1 y2 y3 y4 y5
      unfold spec_EarRanges.l0
      repeat' first
      | (with_reducible exact ih0 _ _ _ _ _ _)
      | (with_reducible exact ih1 _ _ _ _ _ _ _ _)
      | (with_reducible exact spec_EarOk.mono _ _ _ _ _)
      | (with_reducible exact LeO.refl _)
      | (with_reducible exact LeO.none _)
      | (with_reducible refine LeO.ite ?_ ?_)
      | (with_reducible refine LeO.bind ?_ (fun _ => ?_))
      | exact ih0 _ _ _ _ _ _
      | exact ih1 _ _ _ _ _ _ _ _
      | exact spec_EarOk.mono _ _ _ _ _
      | exact LeO.none _
      | refine LeO.ite ?_ ?_
      | refine LeO.bind ?_ (fun _ => ?_)
    · intro y0 y1 y2 y3 y4 y5 y6 y7
      unfold spec_EarRanges.j1
      repeat' first
      | (with_reducible exact ih0 _ _ _ _ _ _)
      | (with_reducible exact ih1 _ _ _ _ _ _ _ _)
      | (with_reducible exact spec_EarOk.mono _ _ _ _ _)
      | (with_reducible exact LeO.refl _)
      | (with_reducible exact LeO.none _)
      | (with_reducible refine LeO.ite ?_ ?_)
      | (with_reducible refine LeO.bind ?_ (fun _ => ?_))
      | exact ih0 _ _ _ _ _ _
      | exact ih1 _ _ _ _ _ _ _ _
      | exact spec_EarOk.mono _ _ _ _ _
      | exact LeO.none _
      | refine LeO.ite ?_ ?_
      | refine LeO.bind ?_ (fun _ => ?_)
theorem spec_EarRanges.mono : ∀ a0 a1 a2 a3 k, LeO (spec_EarRanges.f k a0 a1 a2 a3) (spec_EarRanges.f (k + 1) a0 a1 a2 a3) := by
  intro a0 a1 a2 a3 k
  obtain ⟨ih0, ih1⟩ := spec_EarRanges.mono_l k
  unfold spec_EarRanges.f
  repeat' first
      | (with_reducible exact ih0 _ _ _ _ _ _)
      | (with_reducible exact ih1 _ _ _ _ _ _ _ _)
      | (with_reducible exact spec_EarOk.mono _ _ _ _ _)
      | (with_reducible exact LeO.refl _)
      | (with_reducible exact LeO.none _)
      | (with_reducible refine LeO.ite ?_ ?_)
      | (with_reducible refine LeO.bind ?_ (fun _ => ?_))
      | exact ih0 _ _ _ _ _ _
      | exact ih1 _ _ _ _ _ _ _ _
      | exact spec_EarOk.mono _ _ _ _ _
      | exact LeO.none _
      | refine LeO.ite ?_ ?_
      | refine LeO.bind ?_ (fun _ => ?_)
def spec_EarRanges.T8 : Bool × List (List Nat × List Nat) := (true, [([], []), ([0], [0]), ([1], [1]), ([2], [2]), ([2], [2]), ([3, 4, 2], [2, 3, 4]), ([5, 2], [2, 5]), ([6, 2], [2, 6]), ([2], [2]), ([8, 2], [2, 8]), ([2], [2]), ([9, 10, 2], [2, 9, 10]), ([11, 2], [2, 11]), ([12, 2], [2, 12]), ([7, 13, 2], [2, 7, 13]), ([2, 14], [2, 14])])
def spec_EarRanges.B8 : List Nat := [0, 1, 3, 7, 7, 31, 63, 127, 7, 263, 7, 1799, 3847, 7943, 16383, 32767]
theorem spec_EarRanges.tab8 : rtab .any (opsOf Try.f188 8) = spec_EarRanges.T8 := by kernel_rfl
theorem spec_EarRanges.bits8 : waitsOk spec_EarRanges.T8.2 spec_EarRanges.B8 = true := by kernel_rfl
def spec_EarRanges.T11 : Bool × List (List Nat × List Nat) := (true, [([], []), ([], []), ([1], [1]), ([], []), ([2, 3], [2, 3]), ([4], [4]), ([5], [5]), ([], []), ([7], [7]), ([], []), ([8, 9], [8, 9]), ([10], [10]), ([11], [11]), ([12], [12]), ([6, 13], [6, 13]), ([14], [14]), ([0, 15], [0, 15]), ([16, 16, 0, 1, 2, 3, 4, 5, 6, 7, 8, 9, 10, 11, 12, 13, 14, 15, 16], [0, 16])])
def spec_EarRanges.B11 : List Nat := [0, 0, 2, 0, 14, 30, 62, 0, 128, 0, 896, 1920, 3968, 8064, 16382, 32766, 65535, 131071]
theorem spec_EarRanges.tab11 : rtab .any (opsOf Try.f188 11) = spec_EarRanges.T11 := by kernel_rfl
theorem spec_EarRanges.bits11 : waitsOk spec_EarRanges.T11.2 spec_EarRanges.B11 = true := by kernel_rfl
set_option maxHeartbeats 8000000 in
set_option maxRecDepth 100000 in
theorem spec_EarRanges.calls (k : Nat) (a0_0 : Int) (a0_1 : Int) (A0_2 : Option Addr) (c0_2 : Nat) (l0_2 : List Int) (A0_3 : Option Addr) (c0_3 : Nat) (l0_3 : List (S138)) (r : List (S108)) (w : World) (hr0_2 : Kd.C (Kd.int .u8) w A0_2 l0_2.length l0_2) (hc0_2 : l0_2.length ≤ c0_2) (hr0_3 : Kd.C k138 w A0_3 l0_3.length l0_3) (hc0_3 : l0_3.length ≤ c0_3) (h : spec_EarRanges.f k a0_0 a0_1 l0_2 l0_3 = some r) :
    Calls Try.prog 188 #[.agg #[.int .i64 a0_0, .int .i64 a0_1, .slice A0_2 l0_2.length c0_2, .slice A0_3 l0_3.length c0_3]] w fun e w' => ∃ v0_ : Value, e = .returned (v0_) ∧ Kd.R k108 108 w' w.heap.size (fun _ => True) v0_ r ∧ Below w.heap.size w w' := by
  have hu30 := Try.underlying30
  have hu108 := Try.underlying108
  have HR0_2 := Aside0.mk hr0_2
  have HC0_2 := Aside0.mk hc0_2
  clear hr0_2 hc0_2
  have HR0_3 := Aside0.mk hr0_3
  have HC0_3 := Aside0.mk hc0_3
  clear hr0_3 hc0_3
  have HB := Aside0.mk (Below.refl w.heap.size w)
  have H : ((some (([] : List (S108)) : List (S108))).bind fun y258 => ((spec_EarOk.f k a0_0 a0_1 l0_2 l0_3).bind fun t261 => (if t261 = true then (spec_EarRanges.l0 k y258 0 a0_0 a0_1 l0_2 l0_3) else (some y258)))) = some r := h
  clear h
  obtain ⟨y258, hy258⟩ : ∃ y_ : List (S108), y_ = (([] : List (S108))) := ⟨_, rfl⟩
  replace H : ((spec_EarOk.f k a0_0 a0_1 l0_2 l0_3).bind fun t261 => (if t261 = true then (spec_EarRanges.l0 k y258 0 a0_0 a0_1 l0_2 l0_3) else (some y258))) = some r := by first | (rw [hy258]; with_reducible exact H) | (have H2_ := (Option.bind_some _ _).symm.trans H; rw [hy258]; with_reducible exact H2_) | (have H2_ := (Option.bind_some _ _).symm.trans H; with_reducible exact H2_) | with_reducible exact H | (rw [hy258]; exact H) | exact H
  have Ny258 := Aside0.mk hy258
  clear hy258
  replace H := Option.bind_eq_some_iff.mp H
  obtain ⟨t261, A20, H⟩ := H
  replace H : (if t261 = true then (spec_EarRanges.l0 k y258 0 a0_0 a0_1 l0_2 l0_3) else (some y258)) = some r := H
  have A2 := Aside0.mk A20
  clear A20
  by_cases c3 : t261 = true
  · subst c3
    have H1 : (spec_EarRanges.l0 k y258 0 a0_0 a0_1 l0_2 l0_3) = some r := by rw [if_pos rfl] at H; exact H
    clear H
    have H := H1
    clear H1
    have H' := Aside0.mk H
    clear H
    go_enter Try.func188, Try.ntmps188
    go_wp2_with (first | ((with_reducible refine gate_dst (N := 1) rfl ?_); refine box_event ?hg (N := 1) ?hd (cs := #[.int .i64 a0_0, .int .i64 a0_1, .slice A0_2 l0_2.length c0_2, .slice A0_3 l0_3.length c0_3]) (t := 30) ?hr ?_; (case hd => rfl); (case hg => rfl); (case hr => first | (go_simp; done) | (go_simp; rfl)); intro gb257 hg w4 hbox hb; have n0_ := Aside0.mk (below_step (by repeat (first | (with_reducible first | exact HB.out | apply below_alloc | apply pw_below_drewN | apply below_drew1) | exact HB.out)) hb); have n1_ := Aside0.mk (hbox); have n2_ := Aside0.mk ((by rw [hg]; exact (below_size (by repeat (first | (with_reducible first | exact HB.out | apply below_alloc | apply pw_below_drewN | apply below_drew1) | exact HB.out))) : w.heap.size ≤ gb257)); have n3_ := Aside0.mk ((by rw [hg]; exact (below_size (by repeat (first | (with_reducible first | exact HB.out | apply below_alloc | apply pw_below_drewN | apply below_drew1) | exact HB.out))) : w.heap.size ≤ gb257)); clear HB; have HB := n0_; have BK257 := n1_; have GW257 := n2_; have GE257 := n3_; clear n0_ n1_ n2_ n3_; clear hb hbox hg) | ((with_reducible refine gate_dst (N := 6) rfl ?_); refine Kd.R_lit k108 _ 108 ?hg (N := 6) ?hd (xs := ([] : List (S108))) (inner := []) (ok := fun _ => True) (okp := fun _ => True) ?hr ?hp (fun _ hk => hk) trivial (Below.refl _ _) (Nat.le_refl _) (by simp) ?_; (case hd => rfl); (case hg => rfl); (case hr => first | (go_simp; done) | (go_simp; rfl)); (case hp => exact (Reps.none _ _)); intro v259 w5 ho6 hb hg_ hnew_; clear hg_ hnew_; (first | rw [← Ny258.out] at ho6 | (simp only [Int.reduceToNat] at ho6; rw [← Ny258.out] at ho6)); have n0_ := Aside0.mk (Kd.R_lower ho6 (below_size (by repeat (first | (with_reducible first | exact HB.out | apply below_alloc | apply pw_below_drewN | apply below_drew1 | refine below_set ?_ GE257.out) | exact HB.out)))); have n1_ := Aside0.mk (blk_below (g := gb257) (o := .cells #[.int .i64 a0_0, .int .i64 a0_1, .slice A0_2 l0_2.length c0_2, .slice A0_3 l0_3.length c0_3] 30 (0, 0)) (by (with_reducible repeat (first | refine blk_drewN ?_ _ | refine blk_drew ?_ | refine blk_alloc ?_ _)); exact BK257.out) hb); have n2_ := Aside0.mk (below_step (by repeat (first | (with_reducible first | exact HB.out | apply below_alloc | apply pw_below_drewN | apply below_drew1 | refine below_set ?_ GE257.out) | exact HB.out)) hb); clear BK257; clear HB; have HO260 := n0_; have BK257 := n1_; have HB := n2_; clear n0_ n1_ n2_; clear hb ho6; have hcz7_0 : w5.cell? ⟨gb257, 0, none⟩ = some (.int .i64 a0_0) := (blk_cell BK257.out 0).trans rfl; have hcz7_1 : w5.cell? ⟨gb257, 1, none⟩ = some (.int .i64 a0_1) := (blk_cell BK257.out 1).trans rfl; have hcz7_2 : w5.cell? ⟨gb257, 2, none⟩ = some (.slice A0_2 l0_2.length c0_2) := (blk_cell BK257.out 2).trans rfl; have hcz7_3 : w5.cell? ⟨gb257, 3, none⟩ = some (.slice A0_3 l0_3.length c0_3) := (blk_cell BK257.out 3).trans rfl; have hfz7_0 := blk_frozen BK257.out 0; have hfz7_1 := blk_frozen BK257.out 1; have hfz7_2 := blk_frozen BK257.out 2; have hfz7_3 := blk_frozen BK257.out 3) | ((with_reducible refine gate_callee (f := 110) rfl ?_); refine goesL_ (some 8) rfl rfl Try.func110 (by kernel_rfl) rfl #[.agg #[.int .i64 a0_0, .int .i64 a0_1, .slice A0_2 l0_2.length c0_2, .slice A0_3 l0_3.length c0_3]] rfl (by (try simp only [List.map_toArray, List.map_cons, List.map_nil]); first | done | rfl | (simp only [List.length_drop, List.length_take]; rfl)) ?_; (with_reducible refine (spec_EarOk.calls k a0_0 a0_1 _ _ l0_2 _ _ l0_3 true _ ?side1 ?side2 ?side3 ?side4 A2.out).mono ?_); (case side1 => repeat (first | exact (Kd.C_below HR0_2.out HB.out) | (with_reducible refine Kd.C_alloc ?_ _) | (with_reducible refine Kd.C_drewN ?_ _) | (with_reducible refine Kd.C_drew ?_))); (case side2 => exact HC0_2.out); (case side3 => repeat (first | exact (Kd.C_below HR0_3.out HB.out) | (with_reducible refine Kd.C_alloc ?_ _) | (with_reducible refine Kd.C_drewN ?_ _) | (with_reducible refine Kd.C_drew ?_))); (case side4 => exact HC0_3.out); rintro e w8 ⟨rfl, hb⟩; refine ⟨_, rfl, ?_⟩; have n0_ := Aside0.mk (Kd.R_below (by (with_reducible repeat (first | apply Kd.R_alloc | apply Kd.R_drewN | apply Kd.R_drew)); exact HO260.out) hb); have n1_ := Aside0.mk (blk_below (g := gb257) (o := .cells #[.int .i64 a0_0, .int .i64 a0_1, .slice A0_2 l0_2.length c0_2, .slice A0_3 l0_3.length c0_3] 30 (0, 0)) (by (with_reducible repeat (first | refine blk_drewN ?_ _ | refine blk_drew ?_ | refine blk_alloc ?_ _)); exact BK257.out) hb); have n2_ := Aside0.mk (below_step (by repeat (first | (with_reducible first | exact HB.out | apply below_alloc | apply pw_below_drewN | apply below_drew1 | refine below_set ?_ GE257.out) | exact HB.out)) hb); clear HO260; clear BK257; clear HB; have HO260 := n0_; have BK257 := n1_; have HB := n2_; clear n0_ n1_ n2_; (try clear hb); (try clear hb2); (try clear hk); (try clear hi)))
    go_loopg [3, 4] k (fun kq v3 v4 w' => ∃ (x3_1 : List (S108)) (x4_1 : Int), v4 = .int .i64 x4_1 ∧ Aside0 (spec_EarRanges.l0 kq x3_1 x4_1 a0_0 a0_1 l0_2 l0_3 = some r) ∧ Aside0 (kq ≤ k) ∧ Aside0 (Kd.R k108 108 w' w.heap.size (fun _ => True) v3 x3_1) ∧ Aside0 (w'.heap[gb257]? = some (.cells #[.int .i64 a0_0, .int .i64 a0_1, (.slice A0_2 l0_2.length c0_2), (.slice A0_3 l0_3.length c0_3)] 30 (0, 0))) ∧ Aside0 (Below w.heap.size w w'))
    case atStart => exact ⟨(y258), (0), (by first | rfl | (simp; done) | (simp [*]; done)), H', ⟨Nat.le_refl _⟩, ⟨by (with_reducible repeat (first | apply Kd.R_alloc | apply Kd.R_drewN | apply Kd.R_drew)); exact HO260.out⟩, ⟨by (with_reducible repeat (first | refine blk_drewN ?_ _ | refine blk_drew ?_ | refine blk_alloc ?_ _)); exact BK257.out⟩, ⟨by repeat (first | (with_reducible first | exact HB.out | apply below_alloc | apply pw_below_drewN | apply below_drew1 | refine below_set ?_ GE257.out) | exact HB.out)⟩⟩
    case round =>
      clear H'
      try clear c1
      try clear p2
      try clear c3
      try clear hcz7_0
      try clear hcz7_1
      try clear hcz7_2
      try clear hcz7_3
      try clear hfz7_0
      try clear hfz7_1
      try clear hfz7_2
      try clear hfz7_3
      obtain ⟨x3_1, x4_1, rfl, HA, HK1, HO_3, BK257, HB⟩ := hrel
      cases gk with
      | zero => exact absurd HA.out (by simp [spec_EarRanges.l0])
      | succ k1 =>
        have H := HA.out
        clear HA
        simp only [spec_EarRanges.l0] at H
        by_cases c9 : x4_1 < (l0_3.length : Int)
        · rw [if_pos c9] at H
          have c9b0 : decide (x4_1 < (l0_3.length : Int)) = true := decide_eq_true c9
          clear c9
          have HC10 := Aside0.mk H
          clear H
          have hcz11_0 : wr.cell? ⟨gb257, 0, none⟩ = some (.int .i64 a0_0) := (blk_cell BK257.out 0).trans rfl
          have hcz11_1 : wr.cell? ⟨gb257, 1, none⟩ = some (.int .i64 a0_1) := (blk_cell BK257.out 1).trans rfl
          have hcz11_2 : wr.cell? ⟨gb257, 2, none⟩ = some (.slice A0_2 l0_2.length c0_2) := (blk_cell BK257.out 2).trans rfl
          have hcz11_3 : wr.cell? ⟨gb257, 3, none⟩ = some (.slice A0_3 l0_3.length c0_3) := (blk_cell BK257.out 3).trans rfl
          have hfz11_0 := blk_frozen BK257.out 0
          have hfz11_1 := blk_frozen BK257.out 1
          have hfz11_2 := blk_frozen BK257.out 2
          have hfz11_3 := blk_frozen BK257.out 3
          obtain ⟨Ao12, co12, eo12⟩ := Kd.R_slice HO_3.out
          subst eo12
          go_upto_region 8 with (fail)
          go_cut [36] (fun v36 wc => ∃ (kq : Nat) (x36_9 : Bool), v36 = .bool x36_9 ∧ Aside0 (spec_EarRanges.j1 kq x3_1 x4_1 (wrap64 ((x3_1.length : Int) - 1)) x36_9 a0_0 a0_1 l0_2 l0_3 = some r) ∧ Aside0 (kq ≤ k1) ∧ Aside0 (Kd.R k108 108 wc w.heap.size (fun _ => True) (.slice Ao12 x3_1.length co12) x3_1) ∧ Aside0 (wc.heap[gb257]? = some (.cells #[.int .i64 a0_0, .int .i64 a0_1, (.slice A0_2 l0_2.length c0_2), (.slice A0_3 l0_3.length c0_3)] 30 (0, 0))) ∧ Aside0 (Below w.heap.size w wc))
          case first =>
            have H := HC10.out
            clear HC10
            by_cases c13 : (wrap64 ((x3_1.length : Int) - 1)) ≥ 0
            · rw [if_pos c13] at H
              have c13b0 : decide (0 ≤ (wrap64 ((x3_1.length : Int) - 1))) = true := decide_eq_true c13
              clear c13
              (first | rw [c13b0] | (simp only [i64_w, i32_w]; rw [c13b0]) | skip)
              obtain ⟨ji14, hji14⟩ : ∃ j_ : Int, (wrap64 ((x3_1.length : Int) - 1)) = j_ := ⟨_, rfl⟩
              replace H : (if 0 ≤ (ji14) then (if (ji14) < (x3_1.length : Int) then (if 0 ≤ x4_1 then (spec_EarRanges.j1 k1 x3_1 x4_1 ji14 (((rd_T108 x3_1 (ji14)).f1) == ((rd_T138 l0_3 x4_1).f0)) a0_0 a0_1 l0_2 l0_3) else (none)) else (none)) else (none)) = some r := by first | (rw [hji14] at H; exact H) | (simp only [hji14] at H ⊢; exact H)
              (try rw [hji14] at c13b0)
              have hji14w : (IntKind.i64.wrap ((x3_1.length : Int) - 1)) = ji14 := (i64_w _).trans hji14
              by_cases c15 : 0 ≤ (ji14)
              · rw [if_pos c15] at H
                have c15b0 : decide (0 ≤ (ji14)) = true := decide_eq_true c15
                clear c15
                by_cases c16 : (ji14) < (x3_1.length : Int)
                · rw [if_pos c16] at H
                  have c16b0 : decide ((ji14) < (x3_1.length : Int)) = true := decide_eq_true c16
                  clear c16
                  by_cases c17 : 0 ≤ x4_1
                  · rw [if_pos c17] at H
                    have c17b0 : decide (0 ≤ x4_1) = true := decide_eq_true c17
                    clear c17
                    have H' := Aside0.mk H
                    clear H
                    try go_wp2
                    have n0_ := Aside0.mk (Kd.R_drew HO_3.out)
                    have n1_ := Aside0.mk (blk_drew BK257.out)
                    have n2_ := Aside0.mk (below_drew1 HB.out)
                    clear HO_3
                    clear BK257
                    clear HB
                    have HO_3 := n0_
                    have BK257 := n1_
                    have HB := n2_
                    clear n0_ n1_ n2_
                    have p262 : 0 ≤ ((ji14) : Int) := of_decide_eq_true (by first | (with_reducible assumption) | assumption)
                    have q262 : (ji14) < (x3_1.length : Int) := of_decide_eq_true (by first | (with_reducible assumption) | assumption)
                    obtain ⟨ad262, e262, hx262_0, hx262_1⟩ := at_T108 (Kd.R_reads' HO_3.out).2.2 (ji14) p262 q262
                    cases e262
                    replace p262 := eq_true p262
                    replace q262 := eq_true q262
                    have p263 : 0 ≤ (x4_1 : Int) := of_decide_eq_true (by first | (with_reducible assumption) | assumption)
                    have q263 : x4_1 < (l0_3.length : Int) := of_decide_eq_true (by first | (with_reducible assumption) | assumption)
                    obtain ⟨ad263, e263, hx263_0, hx263_1⟩ := at_T138 HR0_3.out x4_1 p263 q263
                    have hw263_1 := hx263_1
                    have hw263_0 := hx263_0
                    cases e263
                    replace hx263_0 := (HB.out.cell (World.block_lt_of_cell? w _ hx263_0)).trans hx263_0
                    replace hx263_1 := (HB.out.cell (World.block_lt_of_cell? w _ hx263_1)).trans hx263_1
                    replace p263 := eq_true p263
                    replace q263 := eq_true q263
                    refine start_ (n := 16) (S := fun w' => w'.cell? ⟨gb257, 0, none⟩ = some (.int .i64 a0_0) ∧ w'.cell? ⟨gb257, 1, none⟩ = some (.int .i64 a0_1) ∧ w'.cell? ⟨gb257, 2, none⟩ = some (.slice A0_2 l0_2.length c0_2) ∧ w'.cell? ⟨gb257, 3, none⟩ = some (.slice (some ad263) l0_3.length c0_3) ∧ w'.cell? (ad262.add (((ji14)).toNat * 2)) = some (.int .i64 ((rd_T108 x3_1 (ji14)).f0)) ∧ w'.cell? ⟨(ad262.add (((ji14)).toNat * 2)).block, (ad262.add (((ji14)).toNat * 2)).off + 1, none⟩ = some (.int .i64 ((rd_T108 x3_1 (ji14)).f1)) ∧ w'.cell? (ad263.add ((x4_1).toNat * 2)) = some (.int .i64 ((rd_T138 l0_3 x4_1).f0)) ∧ w'.cell? ⟨(ad263.add ((x4_1).toNat * 2)).block, (ad263.add ((x4_1).toNat * 2)).off + 1, none⟩ = some (.int .u8 ((rd_T138 l0_3 x4_1).f1))) (ds := []) #[false, false, false, false, false, false, false, false, false, false, false, false, false, false, false, false] (by kernel_rfl) rfl rfl ⟨(blk_cell BK257.out 0).trans rfl, (blk_cell BK257.out 1).trans rfl, (blk_cell BK257.out 2).trans rfl, (blk_cell BK257.out 3).trans rfl, hx262_0, hx262_1, ((HB.out.cell (World.block_lt_of_cell? w _ hw263_0)).trans hw263_0), ((HB.out.cell (World.block_lt_of_cell? w _ hw263_1)).trans hw263_1)⟩ (fun hHeld => ?_); refine with_tabW spec_EarRanges.tab8 spec_EarRanges.bits8 (fun HT_ HW_ => ?_)
                    generalize wr.drew = w18 at HO_3 BK257 HB hx262_0 hx262_1 hx263_0 hx263_1 hHeld ⊢
                    refine pure_ (i := 0) (N := some 21) (v := ?_) (a' := ?_) #[true, false, false, false, false, false, false, false, false, false, false, false, false, false, false, false] rfl rfl (any_of HT_.out (by kernel_rfl)) (fun _ _ _ h => h) (Or.inl ⟨by rfl, ?_⟩) ?_ ?_
                    rotate_left
                    · intro w'
                      go_simp
                      with_reducible rfl
                    rotate_left
                    · simp only [Act.put, List.setIfInBounds_toArray, List.set_cons_zero, List.set_cons_succ, i64_w, i32_w]
                      rfl
                    refine pure_ (i := 1) (N := some 22) (v := ?_) (a' := ?_) #[true, true, false, false, false, false, false, false, false, false, false, false, false, false, false, false] rfl rfl (any_of HT_.out (by kernel_rfl)) (fun _ _ _ h => h) (Or.inl ⟨by rfl, ?_⟩) ?_ ?_
                    rotate_left
                    · intro w'
                      go_simp
                      with_reducible rfl
                    rotate_left
                    · simp only [Act.put, List.setIfInBounds_toArray, List.set_cons_zero, List.set_cons_succ, i64_w, i32_w]
                      rfl
                    refine pure_ (i := 2) (N := some 23) (v := ?_) (a' := ?_) #[true, true, true, false, false, false, false, false, false, false, false, false, false, false, false, false] rfl rfl (any_of HT_.out (by kernel_rfl)) (fun _ _ _ h => h) (Or.inl ⟨by rfl, ?_⟩) ?_ ?_
                    rotate_left
                    · intro w'
                      go_simp
                      with_reducible rfl
                    rotate_left
                    · simp only [Act.put, List.setIfInBounds_toArray, List.set_cons_zero, List.set_cons_succ, i64_w, i32_w]
                      rfl
                    refine pure_ (i := 3) (N := some 24) (v := ?_) (a' := ?_) #[true, true, true, true, false, false, false, false, false, false, false, false, false, false, false, false] rfl rfl (any_of HT_.out (by kernel_rfl)) (fun _ _ _ h => h) (Or.inl ⟨by rfl, ?_⟩) ?_ ?_
                    rotate_left
                    · intro w'
                      go_simp
                      with_reducible rfl
                    rotate_left
                    · simp only [Act.put, List.setIfInBounds_toArray, List.set_cons_zero, List.set_cons_succ, i64_w, i32_w]
                      rfl
                    refine pure_ (i := 4) (N := some 25) (v := ?_) (a' := ?_) #[true, true, true, true, true, false, false, false, false, false, false, false, false, false, false, false] rfl rfl (any_of HT_.out (by kernel_rfl)) (fun _ _ _ h => h) (Or.inl ⟨by rfl, ?_⟩) ?_ ?_
                    rotate_left
                    · intro w'
                      go_simp
                      with_reducible rfl
                    rotate_left
                    · simp only [Act.put, List.setIfInBounds_toArray, List.set_cons_zero, List.set_cons_succ, i64_w, i32_w]
                      rfl
                    refine pure_ (i := 5) (N := some 26) (v := ?_) (a' := ?_) #[true, true, true, true, true, true, false, false, false, false, false, false, false, false, false, false] rfl rfl (any_of HT_.out (by kernel_rfl)) (fun _ _ _ h => h) (Or.inl ⟨by rfl, ?_⟩) ?_ ?_
                    rotate_left
                    · intro w'
                      go_simp
                      with_reducible rfl
                    rotate_left
                    · simp only [Act.put, List.setIfInBounds_toArray, List.set_cons_zero, List.set_cons_succ, i64_w, i32_w]
                      rfl
                    refine pure_ (i := 6) (N := some 27) (v := ?_) (a' := ?_) #[true, true, true, true, true, true, true, false, false, false, false, false, false, false, false, false] rfl rfl (any_of HT_.out (by kernel_rfl)) (fun _ _ _ h => h) (Or.inl ⟨by rfl, ?_⟩) ?_ ?_
                    rotate_left
                    · intro w'
                      go_simp
                      with_reducible rfl
                    rotate_left
                    · simp only [Act.put, List.setIfInBounds_toArray, List.set_cons_zero, List.set_cons_succ, i64_w, i32_w]
                      rfl
                    refine pure_ (i := 8) (N := some 29) (v := ?_) (a' := ?_) #[true, true, true, true, true, true, true, false, true, false, false, false, false, false, false, false] rfl rfl (any_of HT_.out (by kernel_rfl)) (fun _ _ _ h => h) (Or.inl ⟨by rfl, ?_⟩) ?_ ?_
                    rotate_left
                    · intro w'
                      go_simp
                      with_reducible rfl
                    rotate_left
                    · simp only [Act.put, List.setIfInBounds_toArray, List.set_cons_zero, List.set_cons_succ, i64_w, i32_w]
                      rfl
                    refine pure_ (i := 10) (N := some 31) (v := ?_) (a' := ?_) #[true, true, true, true, true, true, true, false, true, false, true, false, false, false, false, false] rfl rfl (any_of HT_.out (by kernel_rfl)) (fun _ _ _ h => h) (Or.inl ⟨by rfl, ?_⟩) ?_ ?_
                    rotate_left
                    · intro w'
                      go_simp
                      with_reducible rfl
                    rotate_left
                    · simp only [Act.put, List.setIfInBounds_toArray, List.set_cons_zero, List.set_cons_succ, i64_w, i32_w]
                      rfl
                    refine take_ (i := 7) (N := some 28) (v := ?_) (a' := ?_) #[true, true, true, true, true, true, true, true, true, false, true, false, false, false, false, false] rfl rfl (take_ofW HT_.out HW_.out (by kernel_rfl)) (fun _ _ _ h => h) (Or.inl ⟨by rfl, ?_⟩) hHeld ?_ ?_
                    rotate_left
                    · rintro w' ⟨s0, s1, s2, s3, s4, s5, s6, s7⟩
                      go_simp
                      with_reducible rfl
                    rotate_left
                    · simp only [Act.put, List.setIfInBounds_toArray, List.set_cons_zero, List.set_cons_succ, i64_w, i32_w]
                      rfl
                    refine take_ (i := 9) (N := some 30) (v := ?_) (a' := ?_) #[true, true, true, true, true, true, true, true, true, true, true, false, false, false, false, false] rfl rfl (take_ofW HT_.out HW_.out (by kernel_rfl)) (fun _ _ _ h => h) (Or.inl ⟨by rfl, ?_⟩) hHeld ?_ ?_
                    rotate_left
                    · rintro w' ⟨s0, s1, s2, s3, s4, s5, s6, s7⟩
                      go_simp
                      with_reducible rfl
                    rotate_left
                    · simp only [Act.put, List.setIfInBounds_toArray, List.set_cons_zero, List.set_cons_succ, i64_w, i32_w]
                      rfl
                    refine pure_ (i := 11) (N := some 32) (v := ?_) (a' := ?_) #[true, true, true, true, true, true, true, true, true, true, true, true, false, false, false, false] rfl rfl (any_of HT_.out (by kernel_rfl)) (fun _ _ _ h => h) (Or.inl ⟨by rfl, ?_⟩) ?_ ?_
                    rotate_left
                    · intro w'
                      go_simp
                      with_reducible rfl
                    rotate_left
                    · simp only [Act.put, List.setIfInBounds_toArray, List.set_cons_zero, List.set_cons_succ, i64_w, i32_w]
                      rfl
                    refine pure_ (i := 12) (N := some 33) (v := ?_) (a' := ?_) #[true, true, true, true, true, true, true, true, true, true, true, true, true, false, false, false] rfl rfl (any_of HT_.out (by kernel_rfl)) (fun _ _ _ h => h) (Or.inl ⟨by rfl, ?_⟩) ?_ ?_
                    rotate_left
                    · intro w'
                      go_simp
                      with_reducible rfl
                    rotate_left
                    · simp only [Act.put, List.setIfInBounds_toArray, List.set_cons_zero, List.set_cons_succ, i64_w, i32_w]
                      rfl
                    refine take_ (i := 13) (N := some 34) (v := ?_) (a' := ?_) #[true, true, true, true, true, true, true, true, true, true, true, true, true, true, false, false] rfl rfl (take_ofW HT_.out HW_.out (by kernel_rfl)) (fun _ _ _ h => h) (Or.inl ⟨by rfl, ?_⟩) hHeld ?_ ?_
                    rotate_left
                    · rintro w' ⟨s0, s1, s2, s3, s4, s5, s6, s7⟩
                      go_simp
                      with_reducible rfl
                    rotate_left
                    · simp only [Act.put, List.setIfInBounds_toArray, List.set_cons_zero, List.set_cons_succ, i64_w, i32_w]
                      rfl
                    refine pure_ (i := 14) (N := some 35) (v := ?_) (a' := ?_) #[true, true, true, true, true, true, true, true, true, true, true, true, true, true, true, false] rfl rfl (any_of HT_.out (by kernel_rfl)) (fun _ _ _ h => h) (Or.inl ⟨by rfl, ?_⟩) ?_ ?_
                    rotate_left
                    · intro w'
                      go_simp
                      with_reducible rfl
                    rotate_left
                    · simp only [Act.put, List.setIfInBounds_toArray, List.set_cons_zero, List.set_cons_succ, i64_w, i32_w]
                      rfl
                    refine pure_ (i := 15) (N := some 36) (v := ?_) (a' := ?_) #[true, true, true, true, true, true, true, true, true, true, true, true, true, true, true, true] rfl rfl (any_of HT_.out (by kernel_rfl)) (fun _ _ _ h => h) (Or.inl ⟨by rfl, ?_⟩) ?_ ?_
                    rotate_left
                    · intro w'
                      go_simp
                      with_reducible rfl
                    rotate_left
                    · simp only [Act.put, List.setIfInBounds_toArray, List.set_cons_zero, List.set_cons_succ, i64_w, i32_w]
                      rfl
                    refine done_ (done_of HT_.out (by kernel_rfl)) ?_
                    try go_wp2
                    go_meet
                    case rel => exact ⟨_, ((((rd_T108 x3_1 (ji14)).f1) == ((rd_T138 l0_3 x4_1).f0))), (by first | rfl | (simp; done) | (simp only [← hji14] <;> (first | rfl | simp)) | (simp [*]; done)), (by first | exact H' | (rw [hji14]; exact H')), ⟨by have := HK1.out; first | omega | exact Nat.le_refl _⟩, ⟨by (with_reducible repeat (first | apply Kd.R_alloc | apply Kd.R_drewN | apply Kd.R_drew)); exact HO_3.out⟩, ⟨by (with_reducible repeat (first | refine blk_drewN ?_ _ | refine blk_drew ?_ | refine blk_alloc ?_ _)); exact BK257.out⟩, ⟨by repeat (first | (with_reducible first | exact HB.out | apply below_alloc | apply pw_below_drewN | apply below_drew1 | refine below_set ?_ GE257.out) | exact HB.out)⟩⟩
                  · rw [if_neg c17] at H
                    exact absurd H (by simp)
                · rw [if_neg c16] at H
                  exact absurd H (by simp)
              · rw [if_neg c15] at H
                exact absurd H (by simp)
            · rw [if_neg c13] at H
              have c13b0 : decide (0 ≤ (wrap64 ((x3_1.length : Int) - 1))) = false := decide_eq_false c13
              clear c13
              (first | rw [c13b0] | (simp only [i64_w, i32_w]; rw [c13b0]) | skip)
              have H' := Aside0.mk H
              clear H
              try go_wp2
              have n0_ := Aside0.mk (Kd.R_drew HO_3.out)
              have n1_ := Aside0.mk (blk_drew BK257.out)
              have n2_ := Aside0.mk (below_drew1 HB.out)
              clear HO_3
              clear BK257
              clear HB
              have HO_3 := n0_
              have BK257 := n1_
              have HB := n2_
              clear n0_ n1_ n2_
              refine start_ (n := 16) (S := fun w' => True) (ds := []) #[false, false, false, false, false, false, false, false, false, false, false, false, false, false, false, false] (by kernel_rfl) rfl rfl trivial (fun hHeld => ?_); refine with_tabW spec_EarRanges.tab8 spec_EarRanges.bits8 (fun HT_ HW_ => ?_)
              generalize wr.drew = w19 at HO_3 BK257 HB hHeld ⊢
              refine pure_ (i := 0) (N := some 21) (v := ?_) (a' := ?_) #[true, false, false, false, false, false, false, false, false, false, false, false, false, false, false, false] rfl rfl (any_of HT_.out (by kernel_rfl)) (fun _ _ _ h => h) (Or.inl ⟨by rfl, ?_⟩) ?_ ?_
              rotate_left
              · intro w'
                go_simp
                with_reducible rfl
              rotate_left
              · simp only [Act.put, List.setIfInBounds_toArray, List.set_cons_zero, List.set_cons_succ, i64_w, i32_w]
                rfl
              refine pure_ (i := 1) (N := some 22) (v := ?_) (a' := ?_) #[true, true, false, false, false, false, false, false, false, false, false, false, false, false, false, false] rfl rfl (any_of HT_.out (by kernel_rfl)) (fun _ _ _ h => h) (Or.inl ⟨by rfl, ?_⟩) ?_ ?_
              rotate_left
              · intro w'
                go_simp
                with_reducible rfl
              rotate_left
              · simp only [Act.put, List.setIfInBounds_toArray, List.set_cons_zero, List.set_cons_succ, i64_w, i32_w]
                rfl
              refine pure_ (i := 2) (N := some 23) (v := ?_) (a' := ?_) #[true, true, true, false, false, false, false, false, false, false, false, false, false, false, false, false] rfl rfl (any_of HT_.out (by kernel_rfl)) (fun _ _ _ h => h) (Or.inl ⟨by rfl, ?_⟩) ?_ ?_
              rotate_left
              · intro w'
                go_simp
                with_reducible rfl
              rotate_left
              · simp only [Act.put, List.setIfInBounds_toArray, List.set_cons_zero, List.set_cons_succ, i64_w, i32_w]
                rfl
              refine pure_ (i := 3) (N := some 24) (v := undef) (a' := ?_) #[true, true, true, true, false, false, false, false, false, false, false, false, false, false, false, false] rfl rfl (any_of HT_.out (by kernel_rfl)) (fun _ _ _ h => h) (Or.inr ⟨by rfl, rfl⟩) ?_ ?_
              rotate_left
              · simp only [Act.put, List.setIfInBounds_toArray, List.set_cons_zero, List.set_cons_succ, i64_w, i32_w]
                rfl
              refine pure_ (i := 4) (N := some 25) (v := undef) (a' := ?_) #[true, true, true, true, true, false, false, false, false, false, false, false, false, false, false, false] rfl rfl (any_of HT_.out (by kernel_rfl)) (fun _ _ _ h => h) (Or.inr ⟨by rfl, rfl⟩) ?_ ?_
              rotate_left
              · simp only [Act.put, List.setIfInBounds_toArray, List.set_cons_zero, List.set_cons_succ, i64_w, i32_w]
                rfl
              refine pure_ (i := 5) (N := some 26) (v := undef) (a' := ?_) #[true, true, true, true, true, true, false, false, false, false, false, false, false, false, false, false] rfl rfl (any_of HT_.out (by kernel_rfl)) (fun _ _ _ h => h) (Or.inr ⟨by rfl, rfl⟩) ?_ ?_
              rotate_left
              · simp only [Act.put, List.setIfInBounds_toArray, List.set_cons_zero, List.set_cons_succ, i64_w, i32_w]
                rfl
              refine pure_ (i := 6) (N := some 27) (v := undef) (a' := ?_) #[true, true, true, true, true, true, true, false, false, false, false, false, false, false, false, false] rfl rfl (any_of HT_.out (by kernel_rfl)) (fun _ _ _ h => h) (Or.inr ⟨by rfl, rfl⟩) ?_ ?_
              rotate_left
              · simp only [Act.put, List.setIfInBounds_toArray, List.set_cons_zero, List.set_cons_succ, i64_w, i32_w]
                rfl
              refine pure_ (i := 7) (N := some 28) (v := undef) (a' := ?_) #[true, true, true, true, true, true, true, true, false, false, false, false, false, false, false, false] rfl rfl (any_of HT_.out (by kernel_rfl)) (fun _ _ _ h => h) (Or.inr ⟨by rfl, rfl⟩) ?_ ?_
              rotate_left
              · simp only [Act.put, List.setIfInBounds_toArray, List.set_cons_zero, List.set_cons_succ, i64_w, i32_w]
                rfl
              refine pure_ (i := 8) (N := some 29) (v := undef) (a' := ?_) #[true, true, true, true, true, true, true, true, true, false, false, false, false, false, false, false] rfl rfl (any_of HT_.out (by kernel_rfl)) (fun _ _ _ h => h) (Or.inr ⟨by rfl, rfl⟩) ?_ ?_
              rotate_left
              · simp only [Act.put, List.setIfInBounds_toArray, List.set_cons_zero, List.set_cons_succ, i64_w, i32_w]
                rfl
              refine pure_ (i := 9) (N := some 30) (v := undef) (a' := ?_) #[true, true, true, true, true, true, true, true, true, true, false, false, false, false, false, false] rfl rfl (any_of HT_.out (by kernel_rfl)) (fun _ _ _ h => h) (Or.inr ⟨by rfl, rfl⟩) ?_ ?_
              rotate_left
              · simp only [Act.put, List.setIfInBounds_toArray, List.set_cons_zero, List.set_cons_succ, i64_w, i32_w]
                rfl
              refine pure_ (i := 10) (N := some 31) (v := undef) (a' := ?_) #[true, true, true, true, true, true, true, true, true, true, true, false, false, false, false, false] rfl rfl (any_of HT_.out (by kernel_rfl)) (fun _ _ _ h => h) (Or.inr ⟨by rfl, rfl⟩) ?_ ?_
              rotate_left
              · simp only [Act.put, List.setIfInBounds_toArray, List.set_cons_zero, List.set_cons_succ, i64_w, i32_w]
                rfl
              refine pure_ (i := 11) (N := some 32) (v := undef) (a' := ?_) #[true, true, true, true, true, true, true, true, true, true, true, true, false, false, false, false] rfl rfl (any_of HT_.out (by kernel_rfl)) (fun _ _ _ h => h) (Or.inr ⟨by rfl, rfl⟩) ?_ ?_
              rotate_left
              · simp only [Act.put, List.setIfInBounds_toArray, List.set_cons_zero, List.set_cons_succ, i64_w, i32_w]
                rfl
              refine pure_ (i := 12) (N := some 33) (v := undef) (a' := ?_) #[true, true, true, true, true, true, true, true, true, true, true, true, true, false, false, false] rfl rfl (any_of HT_.out (by kernel_rfl)) (fun _ _ _ h => h) (Or.inr ⟨by rfl, rfl⟩) ?_ ?_
              rotate_left
              · simp only [Act.put, List.setIfInBounds_toArray, List.set_cons_zero, List.set_cons_succ, i64_w, i32_w]
                rfl
              refine pure_ (i := 13) (N := some 34) (v := undef) (a' := ?_) #[true, true, true, true, true, true, true, true, true, true, true, true, true, true, false, false] rfl rfl (any_of HT_.out (by kernel_rfl)) (fun _ _ _ h => h) (Or.inr ⟨by rfl, rfl⟩) ?_ ?_
              rotate_left
              · simp only [Act.put, List.setIfInBounds_toArray, List.set_cons_zero, List.set_cons_succ, i64_w, i32_w]
                rfl
              refine pure_ (i := 14) (N := some 35) (v := undef) (a' := ?_) #[true, true, true, true, true, true, true, true, true, true, true, true, true, true, true, false] rfl rfl (any_of HT_.out (by kernel_rfl)) (fun _ _ _ h => h) (Or.inr ⟨by rfl, rfl⟩) ?_ ?_
              rotate_left
              · simp only [Act.put, List.setIfInBounds_toArray, List.set_cons_zero, List.set_cons_succ, i64_w, i32_w]
                rfl
              refine pure_ (i := 15) (N := some 36) (v := ?_) (a' := ?_) #[true, true, true, true, true, true, true, true, true, true, true, true, true, true, true, true] rfl rfl (any_of HT_.out (by kernel_rfl)) (fun _ _ _ h => h) (Or.inl ⟨by rfl, ?_⟩) ?_ ?_
              rotate_left
              · intro w'
                go_simp
                with_reducible rfl
              rotate_left
              · simp only [Act.put, List.setIfInBounds_toArray, List.set_cons_zero, List.set_cons_succ, i64_w, i32_w]
                rfl
              refine done_ (done_of HT_.out (by kernel_rfl)) ?_
              try go_wp2
              go_meet
              case rel => exact ⟨_, (false), (by first | rfl | (simp; done) | (simp [*]; done)), H', ⟨by have := HK1.out; first | omega | exact Nat.le_refl _⟩, ⟨by (with_reducible repeat (first | apply Kd.R_alloc | apply Kd.R_drewN | apply Kd.R_drew)); exact HO_3.out⟩, ⟨by (with_reducible repeat (first | refine blk_drewN ?_ _ | refine blk_drew ?_ | refine blk_alloc ?_ _)); exact BK257.out⟩, ⟨by repeat (first | (with_reducible first | exact HB.out | apply below_alloc | apply pw_below_drewN | apply below_drew1 | refine below_set ?_ GE257.out) | exact HB.out)⟩⟩
          case rest =>
            clear HC10
            try clear c1
            try clear p2
            try clear q2
            try clear hx2
            try clear c3
            try clear p6
            try clear c9
            try clear c9b0
            try clear c11
            try clear c13
            try clear c13b0
            try clear c15
            try clear c15b0
            try clear c16
            try clear c16b0
            try clear c17
            try clear c17b0
            try clear c18
            try clear hcz11_0
            try clear hcz11_1
            try clear hcz11_2
            try clear hcz11_3
            try clear hcz7_0
            try clear hcz7_1
            try clear hcz7_2
            try clear hcz7_3
            try clear hfz11_0
            try clear hfz11_1
            try clear hfz11_2
            try clear hfz11_3
            try clear hfz7_0
            try clear hfz7_1
            try clear hfz7_2
            try clear hfz7_3
            try clear hx262_0
            try clear hx262_1
            try clear hx263_0
            try clear hx263_1
            try clear p2
            try clear p262
            try clear p263
            try clear q262
            try clear q263
            obtain ⟨kq, x36_9, rfl, HA, HJ9, HO_3, BK257, HB⟩ := hcut
            cases kq with
            | zero => exact absurd HA.out (by simp [spec_EarRanges.j1])
            | succ kj9 =>
              have H := HA.out
              clear HA
              simp only [spec_EarRanges.j1] at H
              by_cases c20 : x36_9 = true
              · subst c20
                have H1 : (if 0 ≤ (wrap64 ((x3_1.length : Int) - 1)) then (if (wrap64 ((x3_1.length : Int) - 1)) < (x3_1.length : Int) then (spec_EarRanges.l0 kj9 (x3_1.set ((wrap64 ((x3_1.length : Int) - 1)) : Int).toNat (⟨(rd_T108 x3_1 (wrap64 ((x3_1.length : Int) - 1))).f0, wrap64 (((rd_T108 x3_1 (wrap64 ((x3_1.length : Int) - 1))).f1) + 1)⟩ : S108)) (wrap64 (x4_1 + 1)) a0_0 a0_1 l0_2 l0_3) else (none)) else (none)) = some r := by rw [if_pos rfl] at H; exact H
                clear H
                have H := H1
                clear H1
                obtain ⟨ji21, hji21⟩ : ∃ j_ : Int, (wrap64 ((x3_1.length : Int) - 1)) = j_ := ⟨_, rfl⟩
                replace H : (if 0 ≤ (ji21) then (if (ji21) < (x3_1.length : Int) then (spec_EarRanges.l0 kj9 (x3_1.set ((ji21) : Int).toNat (⟨(rd_T108 x3_1 (ji21)).f0, wrap64 (((rd_T108 x3_1 (ji21)).f1) + 1)⟩ : S108)) (wrap64 (x4_1 + 1)) a0_0 a0_1 l0_2 l0_3) else (none)) else (none)) = some r := by first | (rw [hji21] at H; exact H) | (simp only [hji21] at H ⊢; exact H)
                have hji21w : (IntKind.i64.wrap ((x3_1.length : Int) - 1)) = ji21 := (i64_w _).trans hji21
                by_cases c22 : 0 ≤ (ji21)
                · rw [if_pos c22] at H
                  have c22b0 : decide (0 ≤ (ji21)) = true := decide_eq_true c22
                  clear c22
                  by_cases c23 : (ji21) < (x3_1.length : Int)
                  · rw [if_pos c23] at H
                    have c23b0 : decide ((ji21) < (x3_1.length : Int)) = true := decide_eq_true c23
                    clear c23
                    obtain ⟨y265, hy265⟩ : ∃ y_ : List (S108), y_ = (x3_1.set ((ji21) : Int).toNat (⟨(rd_T108 x3_1 (ji21)).f0, wrap64 (((rd_T108 x3_1 (ji21)).f1) + 1)⟩ : S108)) := ⟨_, rfl⟩
                    replace H : (spec_EarRanges.l0 kj9 y265 (wrap64 (x4_1 + 1)) a0_0 a0_1 l0_2 l0_3) = some r := by first | (rw [hy265]; with_reducible exact H) | (have H2_ := (Option.bind_some _ _).symm.trans H; rw [hy265]; with_reducible exact H2_) | (have H2_ := (Option.bind_some _ _).symm.trans H; with_reducible exact H2_) | with_reducible exact H | (rw [hy265]; exact H) | exact H
                    have Ny265 := Aside0.mk hy265
                    clear hy265
                    have H' := Aside0.mk H
                    clear H
                    have p264 : 0 ≤ ((ji21) : Int) := of_decide_eq_true (by first | (with_reducible assumption) | assumption)
                    have q264 : (ji21) < (x3_1.length : Int) := of_decide_eq_true (by first | (with_reducible assumption) | assumption)
                    obtain ⟨ad264, e264, hx264_0, hx264_1⟩ := at_T108 (Kd.R_reads' HO_3.out).2.2 (ji21) p264 q264
                    cases e264
                    replace p264 := eq_true p264
                    replace q264 := eq_true q264
                    have p24 : 0 ≤ ((ji21) : Int) := of_decide_eq_true (by first | (with_reducible assumption) | assumption)
                    have q24 : ((ji21) : Int) < ((x3_1.length : Int) : Int) := of_decide_eq_true (by first | (with_reducible assumption) | assumption)
                    obtain ⟨go24, co24, eo24, gb24, gl24, cl24, HG24⟩ := Kd.R_form HO_3.out (by omega)
                    (first | cases eo24 | (injection eo24 with ea_ en_ ec_; (first | subst ea_ | (injection ea_ with ea_; subst ea_)); subst ec_; clear en_))
                    have GB24 := Aside0.mk gb24
                    have GG24 := Aside0.mk HG24
                    clear gb24 gl24 HG24
                    (first | simp only [add_plain] at hx264_0 | skip)
                    (first | simp only [add_plain] at hx264_1 | skip)
                    obtain ⟨ce24, hcl24, hM24, hcc24, hfr24⟩ := Kd.R_elem HO_3.out z108 ((ji21) : Int) p24 q24
                    obtain rfl := k108_openM hM24
                    have hx24_0 : wc.cell? ⟨go24, ((ji21) : Int).toNat * 2, none⟩ = some (.int .i64 ((rd_T108 x3_1 (ji21)).f0)) := hcc24 0 _ rfl
                    have hx24_1 : wc.cell? ⟨go24, ((ji21) : Int).toNat * 2 + 1, none⟩ = some (.int .i64 ((rd_T108 x3_1 (ji21)).f1)) := hcc24 1 _ rfl
                    have hf24_0 : wc.frozen? ⟨go24, ((ji21) : Int).toNat * 2, none⟩ = false := hfr24 0
                    have hf24_1 : wc.frozen? ⟨go24, ((ji21) : Int).toNat * 2 + 1, none⟩ = false := hfr24 1
                    clear hcl24 hcc24 hfr24 hM24
                    replace p24 := eq_true p24
                    replace q24 := eq_true q24
                    have HX25 := Aside0.mk (show Kd.R k108 108 wc w.heap.size (fun _ => True) (.slice (some ⟨go24, 0, none⟩) x3_1.length co12) x3_1 from (by (with_reducible repeat (first | apply Kd.R_alloc | apply Kd.R_drewN | apply Kd.R_drew)); exact HO_3.out))
                    obtain ⟨ce25, hcl25, hM25, hcc25, hfr25⟩ := Kd.R_elem HX25.out z108 ((ji21) : Int) (of_decide_eq_true (by first | (with_reducible assumption) | assumption)) (by have h_ : ((ji21) : Int) < ((x3_1.length : Int) : Int) := of_decide_eq_true (by first | (with_reducible assumption) | assumption); first | exact h_ | (have e_ := (Kd.R_reads' HO_3.out).1; omega) | simpa using h_)
                    obtain rfl := k108_openM hM25
                    have HP25 := Kd.R_seg HX25.out ((ji21) : Int) (of_decide_eq_true (by first | (with_reducible assumption) | assumption)) (by have h_ : ((ji21) : Int) < ((x3_1.length : Int) : Int) := of_decide_eq_true (by first | (with_reducible assumption) | assumption); first | exact h_ | (have e_ := (Kd.R_reads' HO_3.out).1; omega) | simpa using h_) (seg := [.int .i64 (wrap64 (((rd_T108 x3_1 (ji21)).f1) + 1))]) (j := 1) hcl25 hcc25 (show 2 ≤ 2 from by decide) (x' := (⟨(rd_T108 x3_1 (ji21)).f0, wrap64 (((rd_T108 x3_1 (ji21)).f1) + 1)⟩ : S108)) (k108_mkM _ _ _ (⟨(rd_T108 x3_1 (ji21)).f0, wrap64 (((rd_T108 x3_1 (ji21)).f1) + 1)⟩ : S108) ) (fun _ hk => hk)
                    have hx25_1 := hcc25 1 _ rfl
                    (try simp only [show (k108).sz = 2 from rfl, Nat.mul_one, Nat.add_zero] at hx25_1)
                    have hf25_1 := hfr25 1
                    (try simp only [show (k108).sz = 2 from rfl, Nat.mul_one, Nat.add_zero] at hf25_1)
                    clear hcl25 hcc25 hfr25 hM25
                    go_wp2_with (first | ((with_reducible refine gate_store (t := 3) (p := 46) rfl ?_); refine store_event (t := 3) (p := 46) (v := ?vo_w26) (w1 := (wc.setCell ⟨go24, ((ji21) : Int).toNat * 2 + 1, none⟩ (.int .i64 (wrap64 (((rd_T108 x3_1 (ji21)).f1) + 1))))) ?hg ?ho ?hn ?hr ?_; (case ho => rfl); (case hg => rfl); (case hn => rfl); (case hr => first | (go_simp; done) | (go_simp; rfl)); intro w26 hw; have hg : wc.grownBy w26 (some go24) := (by rw [hw]; exact HP25.2); have hp_ : Kd.R k108 108 w26 w.heap.size (fun _ => True) (.slice (some ⟨go24, 0, none⟩) x3_1.length co12) y265 := (by rw [hw, Ny265.out]; exact HP25.1); clear HP25; have n0_ := Aside0.mk (hp_); have n1_ := Aside0.mk (blk_grown (g := gb257) (o := .cells #[.int .i64 a0_0, .int .i64 a0_1, .slice A0_2 l0_2.length c0_2, .slice A0_3 l0_3.length c0_3] 30 (0, 0)) (by (with_reducible repeat (first | refine blk_drewN ?_ _ | refine blk_drew ?_ | refine blk_alloc ?_ _)); exact BK257.out) hg (Kd.R_ne HO_3.out BK257.out (by decide))); have n2_ := Aside0.mk ((by rw [hw]; exact below_set (HB.out) GB24.out : Below w.heap.size w w26)); clear HO_3; clear BK257; clear HB; have HO_3 := n0_; have BK257 := n1_; have HB := n2_; clear n0_ n1_ n2_; clear hg hw hp_))
                    go_roundg kj9
                    case measure => have := HK1.out; have := HJ9.out; omega
                    case rel => exact ⟨(y265), (wrap64 (x4_1 + 1)), (by first | rfl | (simp; done) | (simp [*]; done)), H', ⟨by have := HK1.out; have := HJ9.out; omega⟩, ⟨by (with_reducible repeat (first | apply Kd.R_alloc | apply Kd.R_drewN | apply Kd.R_drew)); exact HO_3.out⟩, ⟨by (with_reducible repeat (first | refine blk_drewN ?_ _ | refine blk_drew ?_ | refine blk_alloc ?_ _)); exact BK257.out⟩, ⟨by repeat (first | (with_reducible first | exact HB.out | apply below_alloc | apply pw_below_drewN | apply below_drew1 | refine below_set ?_ GE257.out) | exact HB.out)⟩⟩
                  · rw [if_neg c23] at H
                    exact absurd H (by simp)
                · rw [if_neg c22] at H
                  exact absurd H (by simp)
              · replace c20 := Bool.eq_false_iff.mpr c20
                subst c20
                have H1 : (if (x3_1.length : Int) < 2 then (if 0 ≤ x4_1 then (if x4_1 < (l0_3.length : Int) then (if x3_1.length < 8796093022208 then (spec_EarRanges.l0 kj9 (x3_1 ++ [(⟨(rd_T138 l0_3 x4_1).f0, wrap64 (((rd_T138 l0_3 x4_1).f0) + 1)⟩ : S108)]) (wrap64 (x4_1 + 1)) a0_0 a0_1 l0_2 l0_3) else (none)) else (none)) else (none)) else (spec_EarRanges.l0 kj9 x3_1 (wrap64 (x4_1 + 1)) a0_0 a0_1 l0_2 l0_3)) = some r := by rw [if_neg (show ¬ (false = true) by decide)] at H; exact H
                clear H
                have H := H1
                clear H1
                by_cases c27 : (x3_1.length : Int) < 2
                · rw [if_pos c27] at H
                  have c27b0 : decide ((x3_1.length : Int) < 2) = true := decide_eq_true c27
                  have c27b1 : decide (x3_1.length < 2) = true := decide_eq_true (by omega)
                  clear c27
                  by_cases c28 : 0 ≤ x4_1
                  · rw [if_pos c28] at H
                    have c28b0 : decide (0 ≤ x4_1) = true := decide_eq_true c28
                    clear c28
                    by_cases c29 : x4_1 < (l0_3.length : Int)
                    · rw [if_pos c29] at H
                      have c29b0 : decide (x4_1 < (l0_3.length : Int)) = true := decide_eq_true c29
                      clear c29
                      by_cases c30 : x3_1.length < 8796093022208
                      · rw [if_pos c30] at H
                        have LMc30 := Aside0.mk c30
                        clear c30
                        obtain ⟨y268, hy268⟩ : ∃ y_ : List (S108), y_ = (x3_1 ++ [(⟨(rd_T138 l0_3 x4_1).f0, wrap64 (((rd_T138 l0_3 x4_1).f0) + 1)⟩ : S108)]) := ⟨_, rfl⟩
                        replace H : (spec_EarRanges.l0 kj9 y268 (wrap64 (x4_1 + 1)) a0_0 a0_1 l0_2 l0_3) = some r := by first | (rw [hy268]; with_reducible exact H) | (have H2_ := (Option.bind_some _ _).symm.trans H; rw [hy268]; with_reducible exact H2_) | (have H2_ := (Option.bind_some _ _).symm.trans H; with_reducible exact H2_) | with_reducible exact H | (rw [hy268]; exact H) | exact H
                        have Ny268 := Aside0.mk hy268
                        clear hy268
                        have H' := Aside0.mk H
                        clear H
                        try go_wp2
                        have n0_ := Aside0.mk (Kd.R_drew HO_3.out)
                        have n1_ := Aside0.mk (blk_drew BK257.out)
                        have n2_ := Aside0.mk (below_drew1 HB.out)
                        clear HO_3
                        clear BK257
                        clear HB
                        have HO_3 := n0_
                        have BK257 := n1_
                        have HB := n2_
                        clear n0_ n1_ n2_
                        have p266 : 0 ≤ (x4_1 : Int) := of_decide_eq_true (by first | (with_reducible assumption) | assumption)
                        have q266 : x4_1 < (l0_3.length : Int) := of_decide_eq_true (by first | (with_reducible assumption) | assumption)
                        obtain ⟨ad266, e266, hx266_0, hx266_1⟩ := at_T138 HR0_3.out x4_1 p266 q266
                        have hw266_1 := hx266_1
                        have hw266_0 := hx266_0
                        cases e266
                        replace hx266_0 := (HB.out.cell (World.block_lt_of_cell? w _ hx266_0)).trans hx266_0
                        replace hx266_1 := (HB.out.cell (World.block_lt_of_cell? w _ hx266_1)).trans hx266_1
                        replace p266 := eq_true p266
                        replace q266 := eq_true q266
                        have p267 : 0 ≤ (x4_1 : Int) := of_decide_eq_true (by first | (with_reducible assumption) | assumption)
                        have q267 : x4_1 < (l0_3.length : Int) := of_decide_eq_true (by first | (with_reducible assumption) | assumption)
                        obtain ⟨ad267, e267, hx267_0, hx267_1⟩ := at_T138 HR0_3.out x4_1 p267 q267
                        have hw267_1 := hx267_1
                        have hw267_0 := hx267_0
                        obtain rfl : ad266 = ad267 := (by injection e267)
                        replace hx267_0 := (HB.out.cell (World.block_lt_of_cell? w _ hx267_0)).trans hx267_0
                        replace hx267_1 := (HB.out.cell (World.block_lt_of_cell? w _ hx267_1)).trans hx267_1
                        replace p267 := eq_true p267
                        replace q267 := eq_true q267
                        refine start_ (n := 18) (S := fun w' => w'.cell? ⟨gb257, 0, none⟩ = some (.int .i64 a0_0) ∧ w'.cell? ⟨gb257, 1, none⟩ = some (.int .i64 a0_1) ∧ w'.cell? ⟨gb257, 2, none⟩ = some (.slice A0_2 l0_2.length c0_2) ∧ w'.cell? ⟨gb257, 3, none⟩ = some (.slice (some ad266) l0_3.length c0_3) ∧ w'.cell? (ad266.add ((x4_1).toNat * 2)) = some (.int .i64 ((rd_T138 l0_3 x4_1).f0)) ∧ w'.cell? ⟨(ad266.add ((x4_1).toNat * 2)).block, (ad266.add ((x4_1).toNat * 2)).off + 1, none⟩ = some (.int .u8 ((rd_T138 l0_3 x4_1).f1)) ∧ w'.cell? (ad266.add ((x4_1).toNat * 2)) = some (.int .i64 ((rd_T138 l0_3 x4_1).f0)) ∧ w'.cell? ⟨(ad266.add ((x4_1).toNat * 2)).block, (ad266.add ((x4_1).toNat * 2)).off + 1, none⟩ = some (.int .u8 ((rd_T138 l0_3 x4_1).f1))) (ds := []) #[false, false, false, false, false, false, false, false, false, false, false, false, false, false, false, false, false, false] (by kernel_rfl) rfl rfl ⟨(blk_cell BK257.out 0).trans rfl, (blk_cell BK257.out 1).trans rfl, (blk_cell BK257.out 2).trans rfl, (blk_cell BK257.out 3).trans rfl, ((HB.out.cell (World.block_lt_of_cell? w _ hw266_0)).trans hw266_0), ((HB.out.cell (World.block_lt_of_cell? w _ hw266_1)).trans hw266_1), ((HB.out.cell (World.block_lt_of_cell? w _ hw267_0)).trans hw267_0), ((HB.out.cell (World.block_lt_of_cell? w _ hw267_1)).trans hw267_1)⟩ (fun hHeld => ?_); refine with_tabW spec_EarRanges.tab11 spec_EarRanges.bits11 (fun HT_ HW_ => ?_)
                        generalize wc.drew = w31 at HO_3 BK257 HB hx266_0 hx266_1 hx267_0 hx267_1 hHeld ⊢
                        refine pure_ (i := 0) (N := some 50) (v := ?_) (a' := ?_) #[true, false, false, false, false, false, false, false, false, false, false, false, false, false, false, false, false, false] rfl rfl (any_of HT_.out (by kernel_rfl)) (fun _ _ _ h => h) (Or.inl ⟨by rfl, ?_⟩) ?_ ?_
                        rotate_left
                        · intro w'
                          go_simp
                          with_reducible rfl
                        rotate_left
                        · simp only [Act.put, List.setIfInBounds_toArray, List.set_cons_zero, List.set_cons_succ, i64_w, i32_w]
                          rfl
                        refine pure_ (i := 1) (N := some 51) (v := ?_) (a' := ?_) #[true, true, false, false, false, false, false, false, false, false, false, false, false, false, false, false, false, false] rfl rfl (any_of HT_.out (by kernel_rfl)) (fun _ _ _ h => h) (Or.inl ⟨by rfl, ?_⟩) ?_ ?_
                        rotate_left
                        · intro w'
                          go_simp
                          with_reducible rfl
                        rotate_left
                        · simp only [Act.put, List.setIfInBounds_toArray, List.set_cons_zero, List.set_cons_succ, i64_w, i32_w]
                          rfl
                        refine pure_ (i := 3) (N := some 53) (v := ?_) (a' := ?_) #[true, true, false, true, false, false, false, false, false, false, false, false, false, false, false, false, false, false] rfl rfl (any_of HT_.out (by kernel_rfl)) (fun _ _ _ h => h) (Or.inl ⟨by rfl, ?_⟩) ?_ ?_
                        rotate_left
                        · intro w'
                          go_simp
                          with_reducible rfl
                        rotate_left
                        · simp only [Act.put, List.setIfInBounds_toArray, List.set_cons_zero, List.set_cons_succ, i64_w, i32_w]
                          rfl
                        refine pure_ (i := 7) (N := some 57) (v := ?_) (a' := ?_) #[true, true, false, true, false, false, false, true, false, false, false, false, false, false, false, false, false, false] rfl rfl (any_of HT_.out (by kernel_rfl)) (fun _ _ _ h => h) (Or.inl ⟨by rfl, ?_⟩) ?_ ?_
                        rotate_left
                        · intro w'
                          go_simp
                          with_reducible rfl
                        rotate_left
                        · simp only [Act.put, List.setIfInBounds_toArray, List.set_cons_zero, List.set_cons_succ, i64_w, i32_w]
                          rfl
                        refine pure_ (i := 9) (N := some 59) (v := ?_) (a' := ?_) #[true, true, false, true, false, false, false, true, false, true, false, false, false, false, false, false, false, false] rfl rfl (any_of HT_.out (by kernel_rfl)) (fun _ _ _ h => h) (Or.inl ⟨by rfl, ?_⟩) ?_ ?_
                        rotate_left
                        · intro w'
                          go_simp
                          with_reducible rfl
                        rotate_left
                        · simp only [Act.put, List.setIfInBounds_toArray, List.set_cons_zero, List.set_cons_succ, i64_w, i32_w]
                          rfl
                        refine take_ (i := 2) (N := some 52) (v := ?_) (a' := ?_) #[true, true, true, true, false, false, false, true, false, true, false, false, false, false, false, false, false, false] rfl rfl (take_ofW HT_.out HW_.out (by kernel_rfl)) (fun _ _ _ h => h) (Or.inl ⟨by rfl, ?_⟩) hHeld ?_ ?_
                        rotate_left
                        · rintro w' ⟨s0, s1, s2, s3, s4, s5, s6, s7⟩
                          go_simp
                          with_reducible rfl
                        rotate_left
                        · simp only [Act.put, List.setIfInBounds_toArray, List.set_cons_zero, List.set_cons_succ, i64_w, i32_w]
                          rfl
                        refine pure_ (i := 4) (N := some 54) (v := ?_) (a' := ?_) #[true, true, true, true, true, false, false, true, false, true, false, false, false, false, false, false, false, false] rfl rfl (any_of HT_.out (by kernel_rfl)) (fun _ _ _ h => h) (Or.inl ⟨by rfl, ?_⟩) ?_ ?_
                        rotate_left
                        · intro w'
                          go_simp
                          with_reducible rfl
                        rotate_left
                        · simp only [Act.put, List.setIfInBounds_toArray, List.set_cons_zero, List.set_cons_succ, i64_w, i32_w]
                          rfl
                        refine pure_ (i := 5) (N := some 55) (v := ?_) (a' := ?_) #[true, true, true, true, true, true, false, true, false, true, false, false, false, false, false, false, false, false] rfl rfl (any_of HT_.out (by kernel_rfl)) (fun _ _ _ h => h) (Or.inl ⟨by rfl, ?_⟩) ?_ ?_
                        rotate_left
                        · intro w'
                          go_simp
                          with_reducible rfl
                        rotate_left
                        · simp only [Act.put, List.setIfInBounds_toArray, List.set_cons_zero, List.set_cons_succ, i64_w, i32_w]
                          rfl
                        refine take_ (i := 6) (N := some 56) (v := ?_) (a' := ?_) #[true, true, true, true, true, true, true, true, false, true, false, false, false, false, false, false, false, false] rfl rfl (take_ofW HT_.out HW_.out (by kernel_rfl)) (fun _ _ _ h => h) (Or.inl ⟨by rfl, ?_⟩) hHeld ?_ ?_
                        rotate_left
                        · rintro w' ⟨s0, s1, s2, s3, s4, s5, s6, s7⟩
                          go_simp
                          with_reducible rfl
                        rotate_left
                        · simp only [Act.put, List.setIfInBounds_toArray, List.set_cons_zero, List.set_cons_succ, i64_w, i32_w]
                          rfl
                        refine take_ (i := 8) (N := some 58) (v := ?_) (a' := ?_) #[true, true, true, true, true, true, true, true, true, true, false, false, false, false, false, false, false, false] rfl rfl (take_ofW HT_.out HW_.out (by kernel_rfl)) (fun _ _ _ h => h) (Or.inl ⟨by rfl, ?_⟩) hHeld ?_ ?_
                        rotate_left
                        · rintro w' ⟨s0, s1, s2, s3, s4, s5, s6, s7⟩
                          go_simp
                          with_reducible rfl
                        rotate_left
                        · simp only [Act.put, List.setIfInBounds_toArray, List.set_cons_zero, List.set_cons_succ, i64_w, i32_w]
                          rfl
                        refine pure_ (i := 10) (N := some 60) (v := ?_) (a' := ?_) #[true, true, true, true, true, true, true, true, true, true, true, false, false, false, false, false, false, false] rfl rfl (any_of HT_.out (by kernel_rfl)) (fun _ _ _ h => h) (Or.inl ⟨by rfl, ?_⟩) ?_ ?_
                        rotate_left
                        · intro w'
                          go_simp
                          with_reducible rfl
                        rotate_left
                        · simp only [Act.put, List.setIfInBounds_toArray, List.set_cons_zero, List.set_cons_succ, i64_w, i32_w]
                          rfl
                        refine pure_ (i := 11) (N := some 61) (v := ?_) (a' := ?_) #[true, true, true, true, true, true, true, true, true, true, true, true, false, false, false, false, false, false] rfl rfl (any_of HT_.out (by kernel_rfl)) (fun _ _ _ h => h) (Or.inl ⟨by rfl, ?_⟩) ?_ ?_
                        rotate_left
                        · intro w'
                          go_simp
                          with_reducible rfl
                        rotate_left
                        · simp only [Act.put, List.setIfInBounds_toArray, List.set_cons_zero, List.set_cons_succ, i64_w, i32_w]
                          rfl
                        refine take_ (i := 12) (N := some 62) (v := ?_) (a' := ?_) #[true, true, true, true, true, true, true, true, true, true, true, true, true, false, false, false, false, false] rfl rfl (take_ofW HT_.out HW_.out (by kernel_rfl)) (fun _ _ _ h => h) (Or.inl ⟨by rfl, ?_⟩) hHeld ?_ ?_
                        rotate_left
                        · rintro w' ⟨s0, s1, s2, s3, s4, s5, s6, s7⟩
                          go_simp
                          with_reducible rfl
                        rotate_left
                        · simp only [Act.put, List.setIfInBounds_toArray, List.set_cons_zero, List.set_cons_succ, i64_w, i32_w]
                          rfl
                        refine pure_ (i := 13) (N := some 63) (v := ?_) (a' := ?_) #[true, true, true, true, true, true, true, true, true, true, true, true, true, true, false, false, false, false] rfl rfl (any_of HT_.out (by kernel_rfl)) (fun _ _ _ h => h) (Or.inl ⟨by rfl, ?_⟩) ?_ ?_
                        rotate_left
                        · intro w'
                          go_simp
                          with_reducible rfl
                        rotate_left
                        · simp only [Act.put, List.setIfInBounds_toArray, List.set_cons_zero, List.set_cons_succ, i64_w, i32_w]
                          rfl
                        refine pure_ (i := 14) (N := some 64) (v := ?_) (a' := ?_) #[true, true, true, true, true, true, true, true, true, true, true, true, true, true, true, false, false, false] rfl rfl (any_of HT_.out (by kernel_rfl)) (fun _ _ _ h => h) (Or.inl ⟨by rfl, ?_⟩) ?_ ?_
                        rotate_left
                        · intro w'
                          go_simp
                          with_reducible rfl
                        rotate_left
                        · simp only [Act.put, List.setIfInBounds_toArray, List.set_cons_zero, List.set_cons_succ, i64_w, i32_w]
                          rfl
                        refine one_ (i := 15) (N := some 65) #[true, true, true, true, true, true, true, true, true, true, true, true, true, true, true, true, false, false] rfl rfl (one_of HT_.out (by kernel_rfl)) (by decide) (fun K hK => ?_)
                        refine value_ (w1 := ?_) (v := ?_) (by rfl) rfl ?_ ?_
                        rotate_left 2
                        · go_simp
                          constructor
                          · rfl
                          · rfl
                        refine hK.out _ _ ⟨(blk_cell (blk_alloc BK257.out _) 0).trans rfl, (blk_cell (blk_alloc BK257.out _) 1).trans rfl, (blk_cell (blk_alloc BK257.out _) 2).trans rfl, (blk_cell (blk_alloc BK257.out _) 3).trans rfl, (World.cell?_alloc_lt _ _ _ (World.block_lt_of_cell? _ _ (((HB.out.cell (World.block_lt_of_cell? w _ hw266_0)).trans hw266_0)))).trans (((HB.out.cell (World.block_lt_of_cell? w _ hw266_0)).trans hw266_0)), (World.cell?_alloc_lt _ _ _ (World.block_lt_of_cell? _ _ (((HB.out.cell (World.block_lt_of_cell? w _ hw266_1)).trans hw266_1)))).trans (((HB.out.cell (World.block_lt_of_cell? w _ hw266_1)).trans hw266_1)), (World.cell?_alloc_lt _ _ _ (World.block_lt_of_cell? _ _ (((HB.out.cell (World.block_lt_of_cell? w _ hw267_0)).trans hw267_0)))).trans (((HB.out.cell (World.block_lt_of_cell? w _ hw267_0)).trans hw267_0)), (World.cell?_alloc_lt _ _ _ (World.block_lt_of_cell? _ _ (((HB.out.cell (World.block_lt_of_cell? w _ hw267_1)).trans hw267_1)))).trans (((HB.out.cell (World.block_lt_of_cell? w _ hw267_1)).trans hw267_1))⟩ (fun hHeld => ?_)
                        clear hK K
                        refine norm_ (a' := ?_) ?_ ?_
                        rotate_left
                        · show Act.put _ (some 65) _ = _
                          simp only [Act.put, List.setIfInBounds_toArray, List.set_cons_zero, List.set_cons_succ, i64_w, i32_w]
                          rfl
                        refine one_ (i := 16) (N := some 66) #[true, true, true, true, true, true, true, true, true, true, true, true, true, true, true, true, true, false] rfl rfl (one_of HT_.out (by kernel_rfl)) (by decide) (fun K hK => ?_)
                        refine Kd.R_append_step k108 (w0 := w) w.heap.size (by rfl) (.tmp 50) (.tmp 65) 25 108 (.agg #[(.int .i64 0), (.int .i64 0)]) 16 rfl Try.underlying25 info108 rfl (by decide) (by omega) (.slice Ao12 x3_1.length co12) x3_1 (⟨(rd_T138 l0_3 x4_1).f0, wrap64 (((rd_T138 l0_3 x4_1).f0) + 1)⟩ : S108) [.int .i64 ((rd_T138 l0_3 x4_1).f0), .int .i64 (wrap64 (((rd_T138 l0_3 x4_1).f0) + 1))] (fun _ => True) (fun _ => False) rfl rfl ?aP (fun _ hk => hk.elim) ?aF ?aO ?aB ?aS ?aL ?_
                        (case aP => exact k108_mkM _ _ _ (⟨(rd_T138 l0_3 x4_1).f0, wrap64 (((rd_T138 l0_3 x4_1).f0) + 1)⟩ : S108))
                        (case aB => exact (by repeat (first | (with_reducible first | exact HB.out | apply below_alloc | apply pw_below_drewN | apply below_drew1 | refine below_set ?_ GE257.out) | exact HB.out)))
                        (case aF => exact (fun _ _ => trivial))
                        (case aO => exact (by (with_reducible repeat (first | apply Kd.R_alloc | apply Kd.R_drewN | apply Kd.R_drew)); exact HO_3.out))
                        (case aS => exact (below_size (by repeat (first | (with_reducible first | exact HB.out | apply below_alloc | apply pw_below_drewN | apply below_drew1 | refine below_set ?_ GE257.out) | exact HB.out))))
                        (case aL => have := LMc30.out; omega)
                        intro v269 w32 ho hb hg hat
                        rw [← Ny268.out] at ho
                        have n0_ := Aside0.mk (blk_grown (g := gb257) (o := .cells #[.int .i64 a0_0, .int .i64 a0_1, .slice A0_2 l0_2.length c0_2, .slice (some ad266) l0_3.length c0_3] 30 (0, 0)) (by (with_reducible repeat (first | refine blk_drewN ?_ _ | refine blk_drew ?_ | refine blk_alloc ?_ _)); exact BK257.out) hg (Kd.R_ne HO_3.out BK257.out (by decide)))
                        have n1_ := Aside0.mk (hb)
                        have n2_ := Aside0.mk (ho)
                        clear BK257
                        clear HB
                        clear HO_3
                        have BK257 := n0_
                        have HB := n1_
                        have HO270 := n2_
                        clear n0_ n1_ n2_
                        clear ho hb hg hat
                        refine hK.out _ _ ⟨(blk_cell BK257.out 0).trans rfl, (blk_cell BK257.out 1).trans rfl, (blk_cell BK257.out 2).trans rfl, (blk_cell BK257.out 3).trans rfl, ((HB.out.cell (World.block_lt_of_cell? w _ hw266_0)).trans hw266_0), ((HB.out.cell (World.block_lt_of_cell? w _ hw266_1)).trans hw266_1), ((HB.out.cell (World.block_lt_of_cell? w _ hw267_0)).trans hw267_0), ((HB.out.cell (World.block_lt_of_cell? w _ hw267_1)).trans hw267_1)⟩ (fun hHeld => ?_)
                        clear hK K
                        refine norm_ (a' := ?_) ?_ ?_
                        rotate_left
                        · show Act.put _ (some 66) _ = _
                          simp only [Act.put, List.setIfInBounds_toArray, List.set_cons_zero, List.set_cons_succ, i64_w, i32_w]
                          rfl
                        refine pure_ (i := 17) (N := some 3) (v := ?_) (a' := ?_) #[true, true, true, true, true, true, true, true, true, true, true, true, true, true, true, true, true, true] rfl rfl (any_of HT_.out (by kernel_rfl)) (fun _ _ _ h => h) (Or.inl ⟨by rfl, ?_⟩) ?_ ?_
                        rotate_left
                        · intro w'
                          go_simp
                          with_reducible rfl
                        rotate_left
                        · simp only [Act.put, List.setIfInBounds_toArray, List.set_cons_zero, List.set_cons_succ, i64_w, i32_w]
                          rfl
                        refine done_ (done_of HT_.out (by kernel_rfl)) ?_
                        try go_wp2
                        go_roundg kj9
                        case measure => have := HK1.out; have := HJ9.out; omega
                        case rel => exact ⟨(y268), (wrap64 (x4_1 + 1)), (by first | rfl | (simp; done) | (simp [*]; done)), H', ⟨by have := HK1.out; have := HJ9.out; omega⟩, ⟨by (with_reducible repeat (first | apply Kd.R_alloc | apply Kd.R_drewN | apply Kd.R_drew)); exact HO270.out⟩, ⟨by (with_reducible repeat (first | refine blk_drewN ?_ _ | refine blk_drew ?_ | refine blk_alloc ?_ _)); exact BK257.out⟩, ⟨by repeat (first | (with_reducible first | exact HB.out | apply below_alloc | apply pw_below_drewN | apply below_drew1 | refine below_set ?_ GE257.out) | exact HB.out)⟩⟩
                      · rw [if_neg c30] at H
                        exact absurd H (by simp)
                    · rw [if_neg c29] at H
                      exact absurd H (by simp)
                  · rw [if_neg c28] at H
                    exact absurd H (by simp)
                · rw [if_neg c27] at H
                  have c27b0 : decide ((x3_1.length : Int) < 2) = false := decide_eq_false c27
                  have c27b1 : decide (x3_1.length < 2) = false := decide_eq_false (by omega)
                  clear c27
                  have H' := Aside0.mk H
                  clear H
                  go_wp2
                  go_roundg kj9
                  case measure => have := HK1.out; have := HJ9.out; omega
                  case rel => exact ⟨(x3_1), (wrap64 (x4_1 + 1)), (by first | rfl | (simp; done) | (simp [*]; done)), H', ⟨by have := HK1.out; have := HJ9.out; omega⟩, ⟨by (with_reducible repeat (first | apply Kd.R_alloc | apply Kd.R_drewN | apply Kd.R_drew)); exact HO_3.out⟩, ⟨by (with_reducible repeat (first | refine blk_drewN ?_ _ | refine blk_drew ?_ | refine blk_alloc ?_ _)); exact BK257.out⟩, ⟨by repeat (first | (with_reducible first | exact HB.out | apply below_alloc | apply pw_below_drewN | apply below_drew1 | refine below_set ?_ GE257.out) | exact HB.out)⟩⟩
        · rw [if_neg c9] at H
          have c9b0 : decide (x4_1 < (l0_3.length : Int)) = false := decide_eq_false c9
          clear c9
          obtain rfl := Option.some.inj H
          have hcz33_0 : wr.cell? ⟨gb257, 0, none⟩ = some (.int .i64 a0_0) := (blk_cell BK257.out 0).trans rfl
          have hcz33_1 : wr.cell? ⟨gb257, 1, none⟩ = some (.int .i64 a0_1) := (blk_cell BK257.out 1).trans rfl
          have hcz33_2 : wr.cell? ⟨gb257, 2, none⟩ = some (.slice A0_2 l0_2.length c0_2) := (blk_cell BK257.out 2).trans rfl
          have hcz33_3 : wr.cell? ⟨gb257, 3, none⟩ = some (.slice A0_3 l0_3.length c0_3) := (blk_cell BK257.out 3).trans rfl
          have hfz33_0 := blk_frozen BK257.out 0
          have hfz33_1 := blk_frozen BK257.out 1
          have hfz33_2 := blk_frozen BK257.out 2
          have hfz33_3 := blk_frozen BK257.out 3
          go_wp2
          go_ret
          exact ⟨_, by first | rfl | (simp [errW_none, errW_some] <;> rfl) | (simp [*, errW_none, errW_some] <;> rfl), by (with_reducible repeat (first | apply Kd.R_alloc | apply Kd.R_drewN | apply Kd.R_drew)); exact HO_3.out, by repeat (first | (with_reducible first | exact HB.out | apply below_alloc | apply pw_below_drewN | apply below_drew1 | refine below_set ?_ GE257.out) | exact HB.out)⟩
  · replace c3 := Bool.eq_false_iff.mpr c3
    subst c3
    have H1 : (some y258) = some r := by rw [if_neg (show ¬ (false = true) by decide)] at H; exact H
    clear H
    have H := H1
    clear H1
    obtain rfl := Option.some.inj H
    go_enter Try.func188, Try.ntmps188
    go_wp2_with (first | ((with_reducible refine gate_dst (N := 1) rfl ?_); refine box_event ?hg (N := 1) ?hd (cs := #[.int .i64 a0_0, .int .i64 a0_1, .slice A0_2 l0_2.length c0_2, .slice A0_3 l0_3.length c0_3]) (t := 30) ?hr ?_; (case hd => rfl); (case hg => rfl); (case hr => first | (go_simp; done) | (go_simp; rfl)); intro gb257 hg w34 hbox hb; have n0_ := Aside0.mk (below_step (by repeat (first | (with_reducible first | exact HB.out | apply below_alloc | apply pw_below_drewN | apply below_drew1) | exact HB.out)) hb); have n1_ := Aside0.mk (hbox); have n2_ := Aside0.mk ((by rw [hg]; exact (below_size (by repeat (first | (with_reducible first | exact HB.out | apply below_alloc | apply pw_below_drewN | apply below_drew1) | exact HB.out))) : w.heap.size ≤ gb257)); have n3_ := Aside0.mk ((by rw [hg]; exact (below_size (by repeat (first | (with_reducible first | exact HB.out | apply below_alloc | apply pw_below_drewN | apply below_drew1) | exact HB.out))) : w.heap.size ≤ gb257)); clear HB; have HB := n0_; have BK257 := n1_; have GW257 := n2_; have GE257 := n3_; clear n0_ n1_ n2_ n3_; clear hb hbox hg) | ((with_reducible refine gate_dst (N := 6) rfl ?_); refine Kd.R_lit k108 _ 108 ?hg (N := 6) ?hd (xs := ([] : List (S108))) (inner := []) (ok := fun _ => True) (okp := fun _ => True) ?hr ?hp (fun _ hk => hk) trivial (Below.refl _ _) (Nat.le_refl _) (by simp) ?_; (case hd => rfl); (case hg => rfl); (case hr => first | (go_simp; done) | (go_simp; rfl)); (case hp => exact (Reps.none _ _)); intro v259 w35 ho36 hb hg_ hnew_; clear hg_ hnew_; (first | rw [← Ny258.out] at ho36 | (simp only [Int.reduceToNat] at ho36; rw [← Ny258.out] at ho36)); have n0_ := Aside0.mk (Kd.R_lower ho36 (below_size (by repeat (first | (with_reducible first | exact HB.out | apply below_alloc | apply pw_below_drewN | apply below_drew1 | refine below_set ?_ GE257.out) | exact HB.out)))); have n1_ := Aside0.mk (blk_below (g := gb257) (o := .cells #[.int .i64 a0_0, .int .i64 a0_1, .slice A0_2 l0_2.length c0_2, .slice A0_3 l0_3.length c0_3] 30 (0, 0)) (by (with_reducible repeat (first | refine blk_drewN ?_ _ | refine blk_drew ?_ | refine blk_alloc ?_ _)); exact BK257.out) hb); have n2_ := Aside0.mk (below_step (by repeat (first | (with_reducible first | exact HB.out | apply below_alloc | apply pw_below_drewN | apply below_drew1 | refine below_set ?_ GE257.out) | exact HB.out)) hb); clear BK257; clear HB; have HO260 := n0_; have BK257 := n1_; have HB := n2_; clear n0_ n1_ n2_; clear hb ho36; have hcz37_0 : w35.cell? ⟨gb257, 0, none⟩ = some (.int .i64 a0_0) := (blk_cell BK257.out 0).trans rfl; have hcz37_1 : w35.cell? ⟨gb257, 1, none⟩ = some (.int .i64 a0_1) := (blk_cell BK257.out 1).trans rfl; have hcz37_2 : w35.cell? ⟨gb257, 2, none⟩ = some (.slice A0_2 l0_2.length c0_2) := (blk_cell BK257.out 2).trans rfl; have hcz37_3 : w35.cell? ⟨gb257, 3, none⟩ = some (.slice A0_3 l0_3.length c0_3) := (blk_cell BK257.out 3).trans rfl; have hfz37_0 := blk_frozen BK257.out 0; have hfz37_1 := blk_frozen BK257.out 1; have hfz37_2 := blk_frozen BK257.out 2; have hfz37_3 := blk_frozen BK257.out 3) | ((with_reducible refine gate_callee (f := 110) rfl ?_); refine goesL_ (some 8) rfl rfl Try.func110 (by kernel_rfl) rfl #[.agg #[.int .i64 a0_0, .int .i64 a0_1, .slice A0_2 l0_2.length c0_2, .slice A0_3 l0_3.length c0_3]] rfl (by (try simp only [List.map_toArray, List.map_cons, List.map_nil]); first | done | rfl | (simp only [List.length_drop, List.length_take]; rfl)) ?_; (with_reducible refine (spec_EarOk.calls k a0_0 a0_1 _ _ l0_2 _ _ l0_3 false _ ?side1 ?side2 ?side3 ?side4 A2.out).mono ?_); (case side1 => repeat (first | exact (Kd.C_below HR0_2.out HB.out) | (with_reducible refine Kd.C_alloc ?_ _) | (with_reducible refine Kd.C_drewN ?_ _) | (with_reducible refine Kd.C_drew ?_))); (case side2 => exact HC0_2.out); (case side3 => repeat (first | exact (Kd.C_below HR0_3.out HB.out) | (with_reducible refine Kd.C_alloc ?_ _) | (with_reducible refine Kd.C_drewN ?_ _) | (with_reducible refine Kd.C_drew ?_))); (case side4 => exact HC0_3.out); rintro e w38 ⟨rfl, hb⟩; refine ⟨_, rfl, ?_⟩; have n0_ := Aside0.mk (Kd.R_below (by (with_reducible repeat (first | apply Kd.R_alloc | apply Kd.R_drewN | apply Kd.R_drew)); exact HO260.out) hb); have n1_ := Aside0.mk (blk_below (g := gb257) (o := .cells #[.int .i64 a0_0, .int .i64 a0_1, .slice A0_2 l0_2.length c0_2, .slice A0_3 l0_3.length c0_3] 30 (0, 0)) (by (with_reducible repeat (first | refine blk_drewN ?_ _ | refine blk_drew ?_ | refine blk_alloc ?_ _)); exact BK257.out) hb); have n2_ := Aside0.mk (below_step (by repeat (first | (with_reducible first | exact HB.out | apply below_alloc | apply pw_below_drewN | apply below_drew1 | refine below_set ?_ GE257.out) | exact HB.out)) hb); clear HO260; clear BK257; clear HB; have HO260 := n0_; have BK257 := n1_; have HB := n2_; clear n0_ n1_ n2_; (try clear hb); (try clear hb2); (try clear hk); (try clear hi)))
    go_ret
    exact ⟨_, by first | rfl | (simp [errW_none, errW_some] <;> rfl) | (simp [*, errW_none, errW_some] <;> rfl), by (with_reducible repeat (first | apply Kd.R_alloc | apply Kd.R_drewN | apply Kd.R_drew)); exact HO260.out, by repeat (first | (with_reducible first | exact HB.out | apply below_alloc | apply pw_below_drewN | apply below_drew1 | refine below_set ?_ GE257.out) | exact HB.out)⟩
end Go.Proofs.Ytpeejmolbmhjjaa.Ears
