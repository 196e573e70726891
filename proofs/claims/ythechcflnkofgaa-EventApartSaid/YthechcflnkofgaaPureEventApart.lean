/- Unlike events that may be have unlike bytes. For every input. -/
import Derived.Test.YthechcflnkofgaaQx18
import Derived.Test.YthechcflnkofgaaEvC
set_option linter.unusedVariables false
set_option linter.unusedSimpArgs false
namespace Go.Proofs.Ythechcflnkofgaa.Pure
open Go Go.RowKit Go.Proofs.Ythechcflnkofgaa.Q Go.Proofs.YthechcflnkofgaaW.PrintWords Go.Proofs.YthechcflnkofgaaW.PrintLast Go.Proofs.YthechcflnkofgaaW.PrintMore ShCore EvA EvB EvC
theorem EventApart : shuttlecocklaw04_EventApart.Pure := by
  intro y0 y1 h0 h1
  refine Ev.rounds (g := fun k => shuttlecocklaw04_EventApart.f k y0.f0 y0.f1 y0.f2 y0.f3 y1.f0 y1.f1 y1.f2 y1.f3) ?_
  have out : Ev (fun k => shuttlecocklaw04_EventApart.j0 k true y0.f0 y0.f1 y0.f2 y0.f3 y1.f0 y1.f1 y1.f2 y1.f3) true :=
    Ev.step (fun k => shuttlecocklaw04_EventApart.j0.eq_2 ..) (evYes rfl (Ev.bind ev_fixed (Ev.now _)))
  unfold shuttlecocklaw04_EventApart.f
  refine Ev.bind ev_fixed (evYes rfl ?_)
  refine Ev.bind (Short.ev [y0, y1] (by simp)) ?_
  cases hs : shortB [y0, y1] with
  | false => exact evNo (by simp) out
  | true =>
    refine evYes rfl ?_
    simp only [shortB, shortE, List.all_cons, List.all_nil, Bool.and_true, Bool.and_eq_true, decide_eq_true_eq] at hs
    obtain ⟨⟨⟨s1, s2⟩, s3, s4⟩, _⟩ := hs
    refine Ev.bind (evC (may_f h0.1 y0.f1 y0.f2 y0.f3)) ?_
    cases m0 : mayE y0.f0 y0.f1 y0.f2 y0.f3 with
    | false => exact evNo (by simp) out
    | true =>
      refine evYes rfl (Ev.bind (evC (may_f h1.1 y1.f1 y1.f2 y1.f3)) ?_)
      cases m1 : mayE y1.f0 y1.f1 y1.f2 y1.f3 with
      | false => exact out
      | true =>
        refine Ev.step (fun k => shuttlecocklaw04_EventApart.j0.eq_2 ..) (evNo (by simp) ?_)
        refine Ev.bind (Encode.ev y0 h0.1 (by omega)) (Ev.bind (Encode.ev y1 h1.1 (by omega)) (Ev.bind (Same.ev y0 y1 (by omega)) (evC ?_)))
        rw [toList_lst, toList_lst, lst_arr, lst_arr]
        by_cases c : y0 = y1
        · subst c
          simp
        · have c1 : ¬ encE y0 = encE y1 := fun e => c (enc_inj m0 m1 (by omega) (by omega) e)
          have c2 : ¬ (y0.f0 = y1.f0 ∧ y0.f1 = y1.f1 ∧ y0.f2 = y1.f2 ∧ lst y0.f3 = lst y1.f3) := fun e => c (es_ext e.1 e.2.1 e.2.2.1 e.2.2.2)
          rw [decide_eq_false c2]
          simp [c1]
end Go.Proofs.Ythechcflnkofgaa.Pure
