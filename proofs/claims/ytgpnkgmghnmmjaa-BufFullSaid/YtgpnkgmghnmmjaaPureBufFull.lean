/- A buffer is full by a size up to its own length, and by no larger one; sealed it is empty, and full by none above 0. -/
import Derived.Test.YtgpnkgmghnmmjaaQx19
import Derived.Test.YtgpnkgmghnmmjaaEv
set_option linter.unusedVariables false
set_option linter.unusedSimpArgs false
namespace Go.Proofs.Ytgpnkgmghnmmjaa.Pure
open Go Go.RowKit Go.Proofs.Ytgpnkgmghnmmjaa.Q Go.Proofs.YtgpnkgmghnmmjaaW.PrintWords Go.Proofs.YtgpnkgmghnmmjaaW.PrintLast Go.Proofs.YtgpnkgmghnmmjaaW.PrintMore ShCore EvA EvB EvC BatA BatM BufA BufB
theorem BufFull : shuttlecocklaw19_BufFull.Pure := by
  rintro ⟨m, b, l, s⟩ g h0 h1
  simp only at h0
  refine Ev.rounds (g := fun k => shuttlecocklaw19_BufFull.f k m b l s g) ?_
  unfold shuttlecocklaw19_BufFull.f
  refine Ev.bind ev_fixed19 (evYes rfl ?_)
  by_cases c : (s.size : Int) > 3000
  · rw [decide_eq_true c]
    exact Ev.step (fun k => shuttlecocklaw19_BufFull.j0.eq_2 ..) (evYes rfl (Ev.bind ev_fixed19 (Ev.now _)))
  rw [decide_eq_false c]
  have e1 : wrap64 ((s.size : Int) + 1) = ((s.size + 1 : Nat) : Int) := nxt (by omega)
  refine Ev.step (fun k => shuttlecocklaw19_BufFull.j0.eq_2 ..) (evNo (by simp) (Ev.bind (evC (seal_f ..)) (Ev.bind (evC (full_f ..)) (evNo (by rw [e1]; simp; omega) (Ev.bind (evC (full_f ..)) (evYes (by simp) ?_))))))
  unfold sealB
  by_cases c1 : 1 ≤ m ∧ lst s ≠ [] ∧ mayBt g (wrap64 (m + 1)) b s.size = true
  · rw [if_pos c1]
    exact evYes rfl (evYes (by rw [toList_lst]) (Ev.bind (evC (full_f ..)) (evNo (show ¬ decide ((0 : Int) ≥ 1) = true by decide) (evYes rfl (evYes rfl (evC (by simp)))))))
  · rw [if_neg c1]
    exact evNo (by simp) (Ev.now _)
end Go.Proofs.Ytgpnkgmghnmmjaa.Pure
