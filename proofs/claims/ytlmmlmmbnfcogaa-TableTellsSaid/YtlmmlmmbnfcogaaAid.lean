/- Small facts for the walks. No condition. -/
import Derived.RowKit
namespace Go.Proofs.Ytlmmlmmbnfcogaa.Aid
theorem ne_nil (l : List UInt8) : (l != []) = !l.isEmpty := by cases l <;> rfl
theorem eq_nil (l : List UInt8) : (l == []) = l.isEmpty := by cases l <;> rfl
end Go.Proofs.Ytlmmlmmbnfcogaa.Aid
