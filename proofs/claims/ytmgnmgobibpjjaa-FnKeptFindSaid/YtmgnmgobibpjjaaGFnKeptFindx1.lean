/- What the Go functions that FnKeptFind reaches come to, walked step by step; there is no condition beyond those each statement names. -/
import Derived.Test.YtmgnmgobibpjjaaGFnKeptFindx0
namespace Go.Proofs.Ytmgnmgobibpjjaa.GFnKeptFind
open Go.RowKit Go.Proofs.YtmgnmgobibpjjaaVKeptFind.PrintWords Go.Proofs.YtmgnmgobibpjjaaVKeptFind.PrintLast Go.Proofs.YtmgnmgobibpjjaaVKeptFind.PrintMore
attribute [local go_sem] max2_int min2_int max_two min_two max_three min_three max_four min_four   -- for this text's walks alone
set_option linter.unusedVariables false
set_option linter.unusedSimpArgs false

theorem eqA26 (d : Nat) (w : World) (x0 y0 : ByteArray) (x1 y1 : Int) (x2 y2 : Int) (x3 y3 : ByteArray) (x4 y4 : Int) :
  (Op.equalIn (d + 2) 26 (.agg #[.string x0, .int .i64 x1, .int .i64 x2, .string x3, .int .i64 x4]) (.agg #[.string y0, .int .i64 y1, .int .i64 y2, .string y3, .int .i64 y4])).run Try.prog w = .ok (x0.toList == y0.toList && (x1 == y1 && (x2 == y2 && (x3.toList == y3.toList && (x4 == y4))))) w := by
 refine eqA_of Try.underlying26 (z_0) ?_
 refine eqf_cons (z_1) (z_2) (z_2) (by go_simp) ?_
 refine eqf_cons (z_1) (z_2) (z_2) (by go_simp) ?_
 refine eqf_cons (z_1) (z_2) (z_2) (by go_simp) ?_
 refine eqf_cons (z_1) (z_2) (z_2) (by go_simp) ?_
 exact eqf_last (z_1) (z_2) (z_2) (by go_simp)
theorem eqA83 (d : Nat) (w : World) (x0 y0 : ByteArray) (x1 y1 : Int) (x2 y2 : Int) (x3 y3 : ByteArray) (x4 y4 : Int) (x5 y5 : Int) :
  (Op.equalIn (d + 3) 83 (.agg #[.string x0, .int .i64 x1, .int .i64 x2, .string x3, .int .i64 x4, .int .i64 x5]) (.agg #[.string y0, .int .i64 y1, .int .i64 y2, .string y3, .int .i64 y4, .int .i64 y5])).run Try.prog w = .ok ((x0.toList == y0.toList && (x1 == y1 && (x2 == y2 && (x3.toList == y3.toList && (x4 == y4))))) && (x5 == y5)) w := by
 refine eqA_of Try.underlying83 (z_0) ?_
 refine eqf_cons (z_1) (by go_simp) (by go_simp) (eqA26 (d + 0) w _ _ _ _ _ _ _ _ _ _) ?_
 exact eqf_last (z_1) (z_2) (z_2) (by go_simp)
end Go.Proofs.Ytmgnmgobibpjjaa.GFnKeptFind
