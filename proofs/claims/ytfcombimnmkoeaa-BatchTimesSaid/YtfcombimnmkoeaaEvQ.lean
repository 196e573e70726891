/- What the document says of kinds, and of numbers that fit. For every input. -/
import Derived.Test.YtfcombimnmkoeaaQx28
import Derived.Test.YtfcombimnmkoeaaQx27
import Derived.Test.YtfcombimnmkoeaaQx26
import Derived.Test.YtfcombimnmkoeaaQx25
import Derived.Test.YtfcombimnmkoeaaEv
set_option linter.unusedVariables false
set_option linter.unusedSimpArgs false
namespace Go.Proofs.Ytfcombimnmkoeaa.EvQ
open Go Go.RowKit Go.Proofs.Ytfcombimnmkoeaa.Q Go.Proofs.YtfcombimnmkoeaaW.PrintWords Go.Proofs.YtfcombimnmkoeaaW.PrintLast Go.Proofs.YtfcombimnmkoeaaW.PrintMore ShCore EvA EvB EvC
theorem rknown_f (a : Int) : shuttlecockref03_Known.f a = some (Kind.knownB a) := by
  unfold shuttlecockref03_Known.f Kind.knownB
  split
  · congr 1
    exact decide_eq_decide.2 (by omega)
  · rw [decide_eq_false (by omega)]
theorem rexp_f (a : Int) : shuttlecockref03_Exp.f a = some (expE a) := by
  unfold shuttlecockref03_Exp.f expE
  split
  · congr 1
    exact decide_eq_decide.2 (by omega)
  · rfl
theorem rfits_f (a : Int) : shuttlecockref04_Fits.f a = some (fitsE a) := by
  unfold shuttlecockref04_Fits.f fitsE
  split <;> rfl
theorem rArgs (a : Int) : Ev (fun k => shuttlecockref03_Args.f k a) (Kind.argsL a) := by
  unfold shuttlecockref03_Args.f Kind.argsL
  by_cases c1 : a = 1
  · exact evYes c1 (by rw [if_pos c1]; exact Ev.now _)
  refine evNo c1 ?_
  rw [if_neg c1]
  by_cases c3 : a = 3
  · exact evYes c3 (by rw [if_pos c3]; exact Ev.now _)
  refine evNo c3 ?_
  rw [if_neg c3]
  by_cases c4 : a = 4
  · exact evYes c4 (by rw [if_pos c4]; exact Ev.now _)
  refine evNo c4 ?_
  rw [if_neg c4]
  by_cases c5 : a = 5
  · refine evYes c5 (Ev.step (fun k => shuttlecockref03_Args.j0.eq_2 ..) ?_)
    rw [if_pos c5]
    exact evYes (by simp [c5]) (Ev.now _)
  refine evNo c5 ?_
  rw [if_neg c5]
  refine Ev.step (fun k => shuttlecockref03_Args.j0.eq_2 ..) ?_
  by_cases c6 : a = 6
  · exact evYes (by simp [c6]) (by rw [if_pos c6]; exact Ev.now _)
  refine evNo (by simpa using c6) ?_
  rw [if_neg c6]
  by_cases c7 : a = 7
  · exact evYes c7 (by rw [if_pos c7]; exact Ev.now _)
  refine evNo c7 ?_
  rw [if_neg c7]
  by_cases c9 : a = 9
  · exact evYes c9 (by rw [if_pos c9]; exact Ev.now _)
  refine evNo c9 ?_
  rw [if_neg c9]
  by_cases c10 : a = 10
  · exact evYes c10 (by rw [if_pos c10]; exact Ev.now _)
  refine evNo c10 ?_
  rw [if_neg c10]
  exact Ev.now _
end Go.Proofs.Ytfcombimnmkoeaa.EvQ
