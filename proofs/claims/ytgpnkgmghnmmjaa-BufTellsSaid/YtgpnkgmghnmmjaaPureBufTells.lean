/- What any buffer is when an event is put, and when it is sealed, and whether it is full, is as the document says. -/
import Derived.Test.YtgpnkgmghnmmjaaQx13
import Derived.Test.YtgpnkgmghnmmjaaBufC
set_option linter.unusedVariables false
set_option linter.unusedSimpArgs false
namespace Go.Proofs.Ytgpnkgmghnmmjaa.Pure
open Go Go.RowKit Go.Proofs.Ytgpnkgmghnmmjaa.Q Go.Proofs.YtgpnkgmghnmmjaaW.PrintWords Go.Proofs.YtgpnkgmghnmmjaaW.PrintLast Go.Proofs.YtgpnkgmghnmmjaaW.PrintMore ShCore EvA EvB EvC EvQ EvR BatA BatM BatN BufA BufB BufC
theorem BufTells : shuttlecocklaw19_BufTells.Pure := by
  rintro ⟨m, b, l, s⟩ ⟨t, g, n⟩ ⟨a, d, xs, x⟩ h0 h1 h2
  simp only at h0 h1 h2
  refine Ev.rounds (g := fun k => shuttlecocklaw19_BufTells.f k m b l s t g n a d xs x) ?_
  have out : Ev (fun k => shuttlecocklaw19_BufTells.j0 k true m b l s t g n a d xs x) true :=
    Ev.step (fun k => shuttlecocklaw19_BufTells.j0.eq_2 ..) (evYes rfl (Ev.bind ev_fixed19 (Ev.now _)))
  unfold shuttlecocklaw19_BufTells.f
  by_cases c : (s.size : Int) > 3000
  · exact evYes c out
  refine evNo c (Ev.bind (Short.ev [⟨a, d, xs, x⟩] (by simp)) ?_)
  cases hs : shortB [⟨a, d, xs, x⟩] with
  | false => exact out
  | true =>
    simp only [shortB, shortE, Bool.and_eq_true, List.all_eq_true, decide_eq_true_eq, List.mem_singleton, forall_eq] at hs
    obtain ⟨⟨hs1, hs2⟩, _⟩ := hs
    refine Ev.step (fun k => shuttlecocklaw19_BufTells.j0.eq_2 ..) (evNo (by simp) ?_)
    refine Ev.bind (putEv h2.1 d xs x (by omega) s (by omega) t m b l) (Ev.bind (rputEv d xs (by omega) x (by omega) s (by omega) t m b l) (Ev.bind (evC (seal_f ..)) (Ev.bind (rsealEv ..) (Ev.bind ev_fixed19 (evYes rfl ?_)))))
    refine evYes (by simp) (evYes (by simp) (evYes (by simp) (evYes (by simp) (evYes (by simp) (Ev.bind (evC (full_f ..)) (evC ?_))))))
    simp
end Go.Proofs.Ytgpnkgmghnmmjaa.Pure
