/- Lists of numbers, and events, held against each other. For every input. -/
import Derived.Test.YtfcombimnmkoeaaQx24
import Derived.Test.YtfcombimnmkoeaaQx32
import Derived.Test.YtfcombimnmkoeaaEv
set_option linter.unusedVariables false
set_option linter.unusedSimpArgs false
namespace Go.Proofs.Ytfcombimnmkoeaa.EvD
open Go Go.RowKit Go.Proofs.Ytfcombimnmkoeaa.Q Go.Proofs.YtfcombimnmkoeaaW.PrintWords Go.Proofs.YtfcombimnmkoeaaW.PrintLast Go.Proofs.YtfcombimnmkoeaaW.PrintMore ShCore EvA EvB EvC
theorem Ints.l0 (l m : List Int) (hm : l.length = m.length) (hl : l.length ≤ 9223372036854775807) : ∀ (d i : Nat), i + d = l.length → Ev (fun k => shuttlecockref01_Ints.l0 k l m i) (decide (l.drop i = m.drop i))
  | 0, i, hi => by
    refine Ev.step (fun k => shuttlecockref01_Ints.l0.eq_2 ..) (evNo (by omega) (evC ?_))
    rw [List.drop_eq_nil_of_le (by omega), List.drop_eq_nil_of_le (by omega)]
    rfl
  | d + 1, i, hi => by
    have h : i < l.length := by omega
    have h' : i < m.length := by omega
    have ih := Ints.l0 l m hm hl d (i + 1) (by omega)
    refine Ev.step (fun k => shuttlecockref01_Ints.l0.eq_2 ..) (evYes (by omega) (evYes (by omega) (evYes (by omega) ?_)))
    rw [List.drop_eq_getElem_cons h, List.drop_eq_getElem_cons h', rdI h, rdI h', nxt (by omega)]
    by_cases c : l[i] = m[i]
    · refine evYes c ?_
      simp only [c, List.cons.injEq, true_and]
      exact ih
    · refine evNo c (evC ?_)
      rw [decide_eq_false]
      intro e
      exact c (List.cons.inj e).1
theorem Ints.ev (l m : List Int) (hl : l.length ≤ 9223372036854775807) : Ev (fun k => shuttlecockref01_Ints.f k l m) (decide (l = m)) := by
  unfold shuttlecockref01_Ints.f
  by_cases c : (l.length : Int) = (m.length : Int)
  · refine evYes c ?_
    exact Ints.l0 l m (by omega) hl l.length 0 (by omega)
  · refine evNo c (evC ?_)
    rw [decide_eq_false]
    intro e
    rw [e] at c
    exact c rfl
theorem Same.ev (a b : ES) (hl : a.f2.length ≤ 9223372036854775807) : Ev (fun k => shuttlecockref04_Same.f k a.f0 a.f1 a.f2 a.f3 b.f0 b.f1 b.f2 b.f3) (decide (a.f0 = b.f0 ∧ a.f1 = b.f1 ∧ a.f2 = b.f2 ∧ lst a.f3 = lst b.f3)) := by
  unfold shuttlecockref04_Same.f
  by_cases c0 : a.f0 = b.f0
  · refine evYes c0 ?_
    by_cases c1 : a.f1 = b.f1
    · refine evYes c1 ?_
      refine Ev.bind (Ints.ev a.f2 b.f2 hl) ?_
      by_cases c2 : a.f2 = b.f2
      · refine evYes (decide_eq_true c2) (evC ?_)
        rw [toList_lst, toList_lst]
        by_cases c3 : lst a.f3 = lst b.f3
        · rw [decide_eq_true ⟨c0, c1, c2, c3⟩, c3]
          simp
        · rw [decide_eq_false (fun h => c3 h.2.2.2)]
          simpa using c3
      · exact evNo (by simpa using c2) (evC (by rw [decide_eq_false (fun h => c2 h.2.2.1)]))
    · exact evNo c1 (evC (by rw [decide_eq_false (fun h => c1 h.2.1)]))
  · exact evNo c0 (evC (by rw [decide_eq_false (fun h => c0 h.1)]))
theorem Same.refl (a b : ES) (h : a = b) (hl : a.f2.length ≤ 9223372036854775807) : Ev (fun k => shuttlecockref04_Same.f k a.f0 a.f1 a.f2 a.f3 b.f0 b.f1 b.f2 b.f3) true := by
  have := Same.ev a b hl
  rw [decide_eq_true ⟨by rw [h], by rw [h], by rw [h], by rw [h]⟩] at this
  exact this
end Go.Proofs.Ytfcombimnmkoeaa.EvD
