-- printed by a program of this session (NOTES: hprint); not the kit's print
-- minified3
-- minified2
-- minified
import Derived.Test.YtijjfomnidckdaaAl
import Derived.Test.YtijjfomnidckdaaQx0
namespace Go.Proofs.Ytijjfomnidckdaa.Q
open Go.RowKit Go.Proofs.YtijjfomnidckdaaW.PrintWords Go.Proofs.YtijjfomnidckdaaW.PrintLast Go.Proofs.YtijjfomnidckdaaW.PrintMore
attribute [local go_sem] max2_int min2_int max_two min_two max_three min_three max_four min_four   -- for this text's walks alone
set_option linter.unusedVariables false
set_option linter.unusedSimpArgs false

theorem eqA50 (d : Nat) (w : World) (x0 y0 : Int) (x1 y1 : Int) :
    (Op.equalIn (d + 2) 50 (.agg #[.int .i64 x0, .int .i64 x1]) (.agg #[.int .i64 y0, .int .i64 y1])).run Try.prog w = .ok (x0 == y0 && (x1 == y1)) w := by
  obtain ⟨i, hi⟩ : ∃ i, Try.prog.info? 3 = some i := ⟨_, rfl⟩
  rw [show d + 2 = (d + 1) + 1 from rfl, Go.run_equalIn_array w (d + 1) _ _ Try.underlying50 hi, show Try.prog.cellsOf 3 = 1 by kernel_rfl]
  show (Op.eqItems (d + 1) 3 1 _ _ [0, 1]).run _ _ = _
  refine Go.Proofs.Ytijjfomnidckdaa.Own.eqi_cons (by go_simp; rfl) (by go_simp; rfl) (by go_simp) ?_
  exact Go.Proofs.Ytijjfomnidckdaa.Own.eqi_last (by go_simp; rfl) (by go_simp; rfl) (by go_simp)
end Go.Proofs.Ytijjfomnidckdaa.Q
