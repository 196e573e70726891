/- Lists of events held against each other. For every input. -/
import Derived.Test.YtfcombimnmkoeaaQx15
import Derived.Test.YtfcombimnmkoeaaEv
import Derived.Test.YtfcombimnmkoeaaEvD
set_option linter.unusedVariables false
set_option linter.unusedSimpArgs false
namespace Go.Proofs.Ytfcombimnmkoeaa.BatG
open Go Go.RowKit Go.Proofs.Ytfcombimnmkoeaa.Q Go.Proofs.YtfcombimnmkoeaaW.PrintWords Go.Proofs.YtfcombimnmkoeaaW.PrintLast Go.Proofs.YtfcombimnmkoeaaW.PrintMore ShCore EvA EvB EvC EvD BatA
/-! ### lists of events -/
theorem ok_args {e : ES} (h : okE e) : e.f2.length ≤ 3 := by
  have h3 := Kind.argsL_length e.f0
  rcases ((mayE_iff ..).1 h.1).2 with h | h
  · rw [h.2]
    simp
  · omega
instance decES : DecidableEq ES := fun a b => decidable_of_iff (a.f0 = b.f0 ∧ a.f1 = b.f1 ∧ a.f2 = b.f2 ∧ lst a.f3 = lst b.f3) ⟨fun h => es_ext h.1 h.2.1 h.2.2.1 h.2.2.2, fun h => by rw [h]; exact ⟨rfl, rfl, rfl, rfl⟩⟩
theorem all0 (l m : List ES) (hm : l.length = m.length) (hl : l.length ≤ 9000000000000000000) (ha : ∀ e ∈ l, e.f2.length ≤ 9223372036854775807) : ∀ (d i : Nat), i + d = l.length → Ev (fun k => shuttlecockref04_All.l0 k l m i) (decide (l.drop i = m.drop i))
  | 0, i, hi => by
    refine Ev.step (fun k => shuttlecockref04_All.l0.eq_2 ..) (evNo (by omega) (evC ?_))
    rw [List.drop_eq_nil_of_le (by omega), List.drop_eq_nil_of_le (by omega)]
    rfl
  | d + 1, i, hi => by
    have h : i < l.length := by omega
    have h' : i < m.length := by omega
    have ih := all0 l m hm hl ha d (i + 1) (by omega)
    refine Ev.step (fun k => shuttlecockref04_All.l0.eq_2 ..) (evYes (by omega) (evYes (by omega) (evYes (by omega) ?_)))
    rw [rdE h, rdE h', nxt (by omega), List.drop_eq_getElem_cons h, List.drop_eq_getElem_cons h']
    refine Ev.bind (Same.ev l[i] m[i] (ha _ (List.getElem_mem h))) ?_
    by_cases c : l[i] = m[i]
    · refine evYes (by rw [c]; simp) ?_
      simp only [c, List.cons.injEq, true_and]
      exact ih
    · refine evNo ?_ (evC ?_)
      · rw [decide_eq_true_eq]
        rintro ⟨a1, a2, a3, a4⟩
        exact c (es_ext a1 a2 a3 a4)
      · rw [decide_eq_false]
        intro e
        exact c (List.cons.inj e).1
theorem allEv (l m : List ES) (hl : l.length ≤ 9000000000000000000) (ha : ∀ e ∈ l, e.f2.length ≤ 9223372036854775807) : Ev (fun k => shuttlecockref04_All.f k l m) (decide (l = m)) := by
  unfold shuttlecockref04_All.f
  by_cases c : (l.length : Int) = (m.length : Int)
  · refine evYes c ?_
    exact all0 l m (by omega) hl ha l.length 0 (by omega)
  · refine evNo c (evC ?_)
    rw [decide_eq_false]
    intro e
    rw [e] at c
    exact c rfl
end Go.Proofs.Ytfcombimnmkoeaa.BatG
