/- The table of the program's types, as the reading asks for it; there is no condition. -/
import Derived.Test.YtpeejmolbmhjjaaNSy17
import Derived.Test.YtpeejmolbmhjjaaProg
import Derived.Test.YtpeejmolbmhjjaaChecked
namespace Go.Proofs.Ytpeejmolbmhjjaa.Sx
set_option linter.unusedSimpArgs false
set_option linter.unusedVariables false
open Go
def tab : TT := [
  (3, { ok := true, agg := false, sz := 1, byt := 8, fl := [], el := 0, sl := false, bl := false, st := false, eqs := false, ik := some .i64, zero := [.i .i64 0] }),
  (34, { ok := true, agg := true, sz := 24, byt := 240, fl := [(0, 3), (1, 3), (2, 3), (3, 3), (4, 3), (5, 3), (6, 27), (11, 30), (15, 4), (16, 4), (17, 4), (18, 3), (19, 3), (20, 3), (21, 32)], el := 0, sl := false, bl := false, st := false, eqs := false, ik := none, zero := [.i .i64 0, .i .i64 0, .i .i64 0, .i .i64 0, .i .i64 0, .i .i64 0, .i .i64 0, .lst 1 0 5 [], .i .i64 0, .i .i64 0, .lst 1 0 108 [], .i .i64 0, .i .i64 0, .lst 1 0 5 [], .lst 1 0 138 [], .b false, .b false, .b false, .i .i64 0, .i .i64 0, .i .i64 0, .i .i64 0, .i .i64 0, .i .i64 0] }),
  (27, { ok := true, agg := true, sz := 5, byt := 72, fl := [(0, 3), (1, 22), (2, 3), (3, 3), (4, 25)], el := 0, sl := false, bl := false, st := false, eqs := false, ik := none, zero := [.i .i64 0, .lst 1 0 5 [], .i .i64 0, .i .i64 0, .lst 1 0 108 []] }),
  (4, { ok := true, agg := false, sz := 1, byt := 1, fl := [], el := 0, sl := false, bl := true, st := false, eqs := false, ik := none, zero := [.b false] }),
  (30, { ok := true, agg := true, sz := 4, byt := 64, fl := [(0, 3), (1, 3), (2, 22), (3, 28)], el := 0, sl := false, bl := false, st := false, eqs := false, ik := none, zero := [.i .i64 0, .i .i64 0, .lst 1 0 5 [], .lst 1 0 138 []] }),
  (22, { ok := true, agg := false, sz := 1, byt := 24, fl := [], el := 5, sl := true, bl := false, st := false, eqs := false, ik := none, zero := [.lst 1 0 5 []] }),
  (24, { ok := true, agg := true, sz := 2, byt := 16, fl := [(0, 3), (1, 3)], el := 0, sl := false, bl := false, st := false, eqs := true, ik := none, zero := [.i .i64 0, .i .i64 0] }),
  (174, { ok := true, agg := true, sz := 11, byt := 96, fl := [(0, 3), (1, 3), (2, 3), (3, 3), (4, 3), (5, 4), (6, 4), (7, 4), (8, 4), (9, 25), (10, 22)], el := 0, sl := false, bl := false, st := false, eqs := false, ik := none, zero := [.i .i64 0, .i .i64 0, .i .i64 0, .i .i64 0, .i .i64 0, .b false, .b false, .b false, .b false, .lst 1 0 108 [], .lst 1 0 5 []] }),
  (25, { ok := true, agg := false, sz := 1, byt := 24, fl := [], el := 108, sl := true, bl := false, st := false, eqs := false, ik := none, zero := [.lst 1 0 108 []] }),
  (28, { ok := true, agg := false, sz := 1, byt := 24, fl := [], el := 138, sl := true, bl := false, st := false, eqs := false, ik := none, zero := [.lst 1 0 138 []] }),
  (108, { ok := true, agg := true, sz := 2, byt := 16, fl := [(0, 3), (1, 3)], el := 0, sl := false, bl := false, st := false, eqs := true, ik := none, zero := [.i .i64 0, .i .i64 0] }),
  (32, { ok := true, agg := true, sz := 3, byt := 24, fl := [(0, 3), (1, 3), (2, 3)], el := 0, sl := false, bl := false, st := false, eqs := true, ik := none, zero := [.i .i64 0, .i .i64 0, .i .i64 0] }),
  (45, { ok := true, agg := false, sz := 1, byt := 24, fl := [], el := 34, sl := true, bl := false, st := false, eqs := false, ik := none, zero := [.lst 1 0 34 []] }),
  (138, { ok := true, agg := true, sz := 2, byt := 16, fl := [(0, 3), (1, 5)], el := 0, sl := false, bl := false, st := false, eqs := true, ik := none, zero := [.i .i64 0, .i .u8 0] }),
  (85, { ok := true, agg := true, sz := 5, byt := 104, fl := [(0, 45), (1, 83), (2, 3), (3, 78), (4, 78)], el := 0, sl := false, bl := false, st := false, eqs := false, ik := none, zero := [.lst 1 0 34 [], .lst 1 0 144 [], .i .i64 0, .lst 1 0 22 [], .lst 1 0 22 []] }),
  (68, { ok := true, agg := true, sz := 24, byt := 240, fl := [(0, 3), (1, 3), (2, 3), (3, 3), (4, 3), (5, 3), (6, 62), (11, 65), (15, 4), (16, 4), (17, 4), (18, 3), (19, 3), (20, 3), (21, 66)], el := 0, sl := false, bl := false, st := false, eqs := false, ik := none, zero := [.i .i64 0, .i .i64 0, .i .i64 0, .i .i64 0, .i .i64 0, .i .i64 0, .i .i64 0, .lst 1 0 5 [], .i .i64 0, .i .i64 0, .lst 1 0 189 [], .i .i64 0, .i .i64 0, .lst 1 0 5 [], .lst 1 0 206 [], .b false, .b false, .b false, .i .i64 0, .i .i64 0, .i .i64 0, .i .i64 0, .i .i64 0, .i .i64 0] }),
  (123, { ok := true, agg := false, sz := 1, byt := 24, fl := [], el := 174, sl := true, bl := false, st := false, eqs := false, ik := none, zero := [.lst 1 0 174 []] }),
  (5, { ok := true, agg := false, sz := 1, byt := 1, fl := [], el := 0, sl := false, bl := false, st := false, eqs := false, ik := some .u8, zero := [.i .u8 0] }),
  (144, { ok := true, agg := true, sz := 3, byt := 40, fl := [(0, 3), (1, 4), (2, 22)], el := 0, sl := false, bl := false, st := false, eqs := false, ik := none, zero := [.i .i64 0, .b false, .lst 1 0 5 []] }),
  (78, { ok := true, agg := false, sz := 1, byt := 24, fl := [], el := 22, sl := true, bl := false, st := false, eqs := false, ik := none, zero := [.lst 1 0 22 []] }),
  (48, { ok := true, agg := false, sz := 1, byt := 24, fl := [], el := 3, sl := true, bl := false, st := false, eqs := false, ik := none, zero := [.lst 1 0 3 []] }),
  (62, { ok := true, agg := true, sz := 5, byt := 72, fl := [(0, 3), (1, 22), (2, 3), (3, 3), (4, 60)], el := 0, sl := false, bl := false, st := false, eqs := false, ik := none, zero := [.i .i64 0, .lst 1 0 5 [], .i .i64 0, .i .i64 0, .lst 1 0 189 []] }),
  (80, { ok := true, agg := true, sz := 5, byt := 104, fl := [(0, 76), (1, 77), (2, 3), (3, 78), (4, 78)], el := 0, sl := false, bl := false, st := false, eqs := false, ik := none, zero := [.lst 1 0 68 [], .lst 1 0 179 [], .i .i64 0, .lst 1 0 22 [], .lst 1 0 22 []] }),
  (83, { ok := true, agg := false, sz := 1, byt := 24, fl := [], el := 144, sl := true, bl := false, st := false, eqs := false, ik := none, zero := [.lst 1 0 144 []] }),
  (161, { ok := true, agg := true, sz := 2, byt := 32, fl := [(0, 22), (1, 3)], el := 0, sl := false, bl := false, st := false, eqs := false, ik := none, zero := [.lst 1 0 5 [], .i .i64 0] }),
  (44, { ok := true, agg := false, sz := 1, byt := 24, fl := [], el := 24, sl := true, bl := false, st := false, eqs := false, ik := none, zero := [.lst 1 0 24 []] }),
  (65, { ok := true, agg := true, sz := 4, byt := 64, fl := [(0, 3), (1, 3), (2, 22), (3, 63)], el := 0, sl := false, bl := false, st := false, eqs := false, ik := none, zero := [.i .i64 0, .i .i64 0, .lst 1 0 5 [], .lst 1 0 206 []] }),
  (72, { ok := true, agg := true, sz := 2, byt := 16, fl := [(0, 3), (1, 3)], el := 0, sl := false, bl := false, st := false, eqs := true, ik := none, zero := [.i .i64 0, .i .i64 0] }),
  (179, { ok := true, agg := true, sz := 3, byt := 40, fl := [(0, 3), (1, 4), (2, 22)], el := 0, sl := false, bl := false, st := false, eqs := false, ik := none, zero := [.i .i64 0, .b false, .lst 1 0 5 []] }),
  (66, { ok := true, agg := true, sz := 3, byt := 24, fl := [(0, 3), (1, 3), (2, 3)], el := 0, sl := false, bl := false, st := false, eqs := true, ik := none, zero := [.i .i64 0, .i .i64 0, .i .i64 0] }),
  (76, { ok := true, agg := false, sz := 1, byt := 24, fl := [], el := 68, sl := true, bl := false, st := false, eqs := false, ik := none, zero := [.lst 1 0 68 []] }),
  (77, { ok := true, agg := false, sz := 1, byt := 24, fl := [], el := 179, sl := true, bl := false, st := false, eqs := false, ik := none, zero := [.lst 1 0 179 []] }),
  (189, { ok := true, agg := true, sz := 2, byt := 16, fl := [(0, 3), (1, 3)], el := 0, sl := false, bl := false, st := false, eqs := true, ik := none, zero := [.i .i64 0, .i .i64 0] }),
  (206, { ok := true, agg := true, sz := 2, byt := 16, fl := [(0, 3), (1, 5)], el := 0, sl := false, bl := false, st := false, eqs := true, ik := none, zero := [.i .i64 0, .i .u8 0] }),
  (9, { ok := true, agg := false, sz := 1, byt := 16, fl := [], el := 0, sl := false, bl := false, st := true, eqs := false, ik := none, zero := [.s ByteArray.empty] }),
  (60, { ok := true, agg := false, sz := 1, byt := 24, fl := [], el := 189, sl := true, bl := false, st := false, eqs := false, ik := none, zero := [.lst 1 0 189 []] }),
  (63, { ok := true, agg := false, sz := 1, byt := 24, fl := [], el := 206, sl := true, bl := false, st := false, eqs := false, ik := none, zero := [.lst 1 0 206 []] }),
  (89, { ok := true, agg := false, sz := 1, byt := 24, fl := [], el := 72, sl := true, bl := false, st := false, eqs := false, ik := none, zero := [.lst 1 0 72 []] })]
set_option maxRecDepth 100000 in
theorem tab_eq : tab.map (fun x => (x.1, tiOf Try.prog x.1)) = tab := by kernel_rfl
theorem tab_ok : TabOk Try.prog tab := tabOk_of tab_eq
set_option maxRecDepth 100000 in
theorem mixed : Try.prog.follows .mixedOrders = true := by kernel_rfl
end Go.Proofs.Ytpeejmolbmhjjaa.Sx
