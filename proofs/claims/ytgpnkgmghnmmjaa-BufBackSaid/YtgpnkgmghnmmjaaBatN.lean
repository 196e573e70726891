/- Whether a batch may be, as the document says. For every input. -/
import Derived.Test.YtgpnkgmghnmmjaaQx28
import Derived.Test.YtgpnkgmghnmmjaaEv
import Derived.Test.YtgpnkgmghnmmjaaEvQ
set_option linter.unusedVariables false
set_option linter.unusedSimpArgs false
namespace Go.Proofs.Ytgpnkgmghnmmjaa.BatN
open Go Go.RowKit Go.Proofs.Ytgpnkgmghnmmjaa.Q Go.Proofs.YtgpnkgmghnmmjaaW.PrintWords Go.Proofs.YtgpnkgmghnmmjaaW.PrintLast Go.Proofs.YtgpnkgmghnmmjaaW.PrintMore ShCore EvA EvB EvC EvQ BatA
theorem fitsE_dec (a : Int) : fitsE a = decide (0 ≤ a ∧ a < 4611686018427387904) := by
  by_cases h : fitsE a = true
  · rw [h, decide_eq_true ((fitsE_iff a).1 h)]
  · rw [Bool.not_eq_true] at h
    rw [h, decide_eq_false]
    intro h2
    rw [(fitsE_iff a).2 h2] at h
    exact absurd h (by simp)
theorem rbmay_f (g st b : Int) (s : ByteArray) : shuttlecockref05_May.f g st b s = some (mayBt g st b s.size) := by
  unfold shuttlecockref05_May.f mayBt
  simp only [rfits_f, fitsE_dec, Option.bind_some]
  by_cases h0 : g ≥ 1
  · rw [if_pos h0]
    by_cases h1 : 0 ≤ g ∧ g < 4611686018427387904
    · rw [if_pos (decide_eq_true h1)]
      by_cases h2 : 0 ≤ st ∧ st < 4611686018427387904
      · rw [if_pos (decide_eq_true h2)]
        by_cases h3 : 0 ≤ b ∧ b < 4611686018427387904
        · rw [if_pos (decide_eq_true h3)]
          congr 1
          exact decide_eq_decide.2 (by omega)
        · rw [if_neg (by simpa using h3), decide_eq_false (by omega)]
      · rw [if_neg (by simpa using h2), decide_eq_false (by omega)]
    · rw [if_neg (by simpa using h1), decide_eq_false (by omega)]
  · rw [if_neg h0, decide_eq_false (by omega)]
end Go.Proofs.Ytgpnkgmghnmmjaa.BatN
