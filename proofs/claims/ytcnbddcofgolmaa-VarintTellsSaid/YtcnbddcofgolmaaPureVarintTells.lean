/- Put, Len and Take of the program and of the document tell the same of every number and of every text of at most 10000 bytes. For every input. -/
import Derived.Test.YtcnbddcofgolmaaPVarintTellsx3
import Derived.Test.YtcnbddcofgolmaaVintPVarintTells
import Derived.Test.YtcnbddcofgolmaaVintRVarintTells
namespace Go.Proofs.Ytcnbddcofgolmaa.Pure
open Go Go.RowKit Go.Proofs.Ytcnbddcofgolmaa.PVarintTells Go.Proofs.YtcnbddcofgolmaaW.PrintWords Go.Proofs.YtcnbddcofgolmaaW.PrintLast ShCore

theorem fixed_ev : Ev (fun k => shuttlecocklaw01_fixed.f k) true := Ev.of shuttlecocklaw01_fixed.mono (k := 30) (by decide +kernel)
theorem VarintTells : shuttlecocklaw01_VarintTells.Pure := by
  intro n s p _ hs _
  refine Ev.rounds (g := fun k => shuttlecocklaw01_VarintTells.f k n s p) ?_
  unfold shuttlecocklaw01_VarintTells.f
  by_cases h : (s.size : Int) > 10000
  · simp only [if_pos h]
    exact Ev.bind fixed_ev (Ev.now _)
  · simp only [if_neg h]
    refine Ev.bind (varint_Take.ev s p (by omega)) ?_
    refine Ev.bind (shuttlecockref01_Take.ev s p (by omega)) ?_
    refine Ev.bind fixed_ev ?_
    simp only [↓reduceIte]
    refine Ev.bind (varint_Put.ev n) ?_
    refine Ev.bind (shuttlecockref01_Put.ev n) ?_
    simp only [↓reduceIte]
    refine Ev.bind (varint_Len.ev n) ?_
    refine Ev.bind (shuttlecockref01_Len.ev n) ?_
    simp only [↓reduceIte, BEq.rfl]
    exact Ev.now _
end Go.Proofs.Ytcnbddcofgolmaa.Pure
