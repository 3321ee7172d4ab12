-- Written for this claim by a turned copy of the kit's print (wip/printx/mk.py). By an AI agent.
import Derived.Test.YtbladhplpceomaaGreatPJournalSumsx0
namespace Go.Proofs.YtbladhplpceomaaGreat.PJournalSums
open Go.RowKit Go.Proofs.YtbladhplpceomaaGreatW.PrintWords Go.Proofs.YtbladhplpceomaaGreatW.PrintLast Go.Proofs.YtbladhplpceomaaGreatW.PrintMore
attribute [local go_sem] max2_int min2_int max_two min_two max_three min_three max_four min_four   -- for this text's walks alone
set_option linter.unusedVariables false
set_option linter.unusedSimpArgs false

theorem eqA95 (d : Nat) (w : World) (x0 y0 : Int) (x1 y1 : Int) :
    (Op.equalIn (d + 2) 95 (.agg #[.int .i64 x0, .int .i64 x1]) (.agg #[.int .i64 y0, .int .i64 y1])).run Tryz.prog w = .ok (x0 == y0 && (x1 == y1)) w := by
  refine eqA_of Tryz.underlying95 (by kernel_rfl) ?_
  refine eqf_cons (by rfl) (by go_simp; rfl) (by go_simp; rfl) (by go_simp) ?_
  exact eqf_last (by rfl) (by go_simp; rfl) (by go_simp; rfl) (by go_simp)
theorem eqA97 (d : Nat) (w : World) (x0 y0 : Int) (x1 y1 : ByteArray) (x2 y2 : Int) (x3 y3 : Int) (x4 y4 : Int) (x5 y5 : Int) (x6 y6 : Bool) :
    (Op.equalIn (d + 3) 97 (.agg #[.int .i64 x0, .string x1, .int .i64 x2, .int .i64 x3, .int .i64 x4, .int .i64 x5, .bool x6]) (.agg #[.int .i64 y0, .string y1, .int .i64 y2, .int .i64 y3, .int .i64 y4, .int .i64 y5, .bool y6])).run Tryz.prog w = .ok (x0 == y0 && (x1.toList == y1.toList && ((x2 == y2 && (x3 == y3)) && ((x4 == y4 && (x5 == y5)) && (x6 == y6))))) w := by
  refine eqA_of Tryz.underlying97 (by kernel_rfl) ?_
  refine eqf_cons (by rfl) (by go_simp; rfl) (by go_simp; rfl) (by go_simp) ?_
  refine eqf_cons (by rfl) (by go_simp; rfl) (by go_simp; rfl) (by go_simp) ?_
  refine eqf_cons (by rfl) (by go_simp) (by go_simp) (eqA95 (d + 0) w _ _ _ _) ?_
  refine eqf_cons (by rfl) (by go_simp) (by go_simp) (eqA95 (d + 0) w _ _ _ _) ?_
  exact eqf_last (by rfl) (by go_simp; rfl) (by go_simp; rfl) (by go_simp)
end Go.Proofs.YtbladhplpceomaaGreat.PJournalSums
