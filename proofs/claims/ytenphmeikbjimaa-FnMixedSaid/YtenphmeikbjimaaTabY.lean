/- The table of the program's types, as the reading asks for it; there is no condition. -/
import Derived.Test.YtenphmeikbjimaaSy17
import Derived.Test.YtenphmeikbjimaaProg
import Derived.Test.YtenphmeikbjimaaChecked
namespace Go.Proofs.Ytenphmeikbjimaa.Sx
open Go
def tab : TT := [
  (3, { ok := true, agg := false, sz := 1, byt := 8, fl := [], el := 0, sl := false, bl := false, st := false, eqs := false, ik := some .i64, zero := [.i .i64 0] }),
  (22, { ok := true, agg := false, sz := 1, byt := 24, fl := [], el := 5, sl := true, bl := false, st := false, eqs := false, ik := none, zero := [.lst 1 0 5 []] }),
  (5, { ok := true, agg := false, sz := 1, byt := 1, fl := [], el := 0, sl := false, bl := false, st := false, eqs := false, ik := some .u8, zero := [.i .u8 0] }),
  (4, { ok := true, agg := false, sz := 1, byt := 1, fl := [], el := 0, sl := false, bl := true, st := false, eqs := false, ik := none, zero := [.b false] }),
  (27, { ok := true, agg := false, sz := 1, byt := 24, fl := [], el := 22, sl := true, bl := false, st := false, eqs := false, ik := none, zero := [.lst 1 0 22 []] }),
  (45, { ok := true, agg := true, sz := 2, byt := 32, fl := [(0, 22), (1, 3)], el := 0, sl := false, bl := false, st := false, eqs := false, ik := none, zero := [.lst 1 0 5 [], .i .i64 0] }),
  (9, { ok := true, agg := false, sz := 1, byt := 16, fl := [], el := 0, sl := false, bl := false, st := true, eqs := false, ik := none, zero := [.s ByteArray.empty] })]
set_option maxRecDepth 100000 in
theorem tab_eq : tab.map (fun x => (x.1, tiOf Try.prog x.1)) = tab := by kernel_rfl
theorem tab_ok : TabOk Try.prog tab := by
  intro t i h
  have h1 := lk_mem h
  rw [← tab_eq] at h1
  obtain ⟨x, hx, he⟩ := List.mem_map.1 h1
  have e1 : x.1 = t := congrArg Prod.fst he
  have e2 : tiOf Try.prog x.1 = i := congrArg Prod.snd he
  rw [← e2, e1]
theorem mixed : Try.prog.follows .mixedOrders = true := by kernel_rfl
end Go.Proofs.Ytenphmeikbjimaa.Sx
