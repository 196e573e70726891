-- printed by a program of this session (NOTES: hprint); not the kit's print
-- minified3
-- minified2
-- minified
import Derived.Test.YtlmmlmmbnfcogaaAl
import Derived.Test.YtlmmlmmbnfcogaaQx0
namespace Go.Proofs.Ytlmmlmmbnfcogaa.Q
open Go.RowKit Go.Proofs.YtlmmlmmbnfcogaaW.PrintWords Go.Proofs.YtlmmlmmbnfcogaaW.PrintLast Go.Proofs.YtlmmlmmbnfcogaaW.PrintMore
attribute [local go_sem] max2_int min2_int max_two min_two max_three min_three max_four min_four   -- for this text's walks alone
set_option linter.unusedVariables false
set_option linter.unusedSimpArgs false

theorem eqA70 (d : Nat) (w : World) (x0 y0 : Int) (x1 y1 : Int) :
    (Op.equalIn (d + 2) 70 (.agg #[.int .i64 x0, .int .i64 x1]) (.agg #[.int .i64 y0, .int .i64 y1])).run Try.prog w = .ok (x0 == y0 && (x1 == y1)) w := by
  obtain ⟨i, hi⟩ : ∃ i, Try.prog.info? 3 = some i := ⟨_, rfl⟩
  rw [show d + 2 = (d + 1) + 1 from rfl, Go.run_equalIn_array w (d + 1) _ _ Try.underlying70 hi, show Try.prog.cellsOf 3 = 1 by kernel_rfl]
  show (Op.eqItems (d + 1) 3 1 _ _ [0, 1]).run _ _ = _
  refine Go.Proofs.Ytlmmlmmbnfcogaa.Own.eqi_cons (by go_simp; rfl) (by go_simp; rfl) (by go_simp) ?_
  exact Go.Proofs.Ytlmmlmmbnfcogaa.Own.eqi_last (by go_simp; rfl) (by go_simp; rfl) (by go_simp)
end Go.Proofs.Ytlmmlmmbnfcogaa.Q
