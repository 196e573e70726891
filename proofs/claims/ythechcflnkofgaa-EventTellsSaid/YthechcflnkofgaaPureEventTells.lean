/- The bytes of any event, whether it may be, and the event at any place of any bytes, or what is wrong, is as the document says. For every input. -/
import Derived.Test.YthechcflnkofgaaQx14
import Derived.Test.YthechcflnkofgaaEvR
set_option linter.unusedVariables false
set_option linter.unusedSimpArgs false
namespace Go.Proofs.Ythechcflnkofgaa.Pure
open Go Go.RowKit Go.Proofs.Ythechcflnkofgaa.Q Go.Proofs.YthechcflnkofgaaW.PrintWords Go.Proofs.YthechcflnkofgaaW.PrintLast Go.Proofs.YthechcflnkofgaaW.PrintMore ShCore EvA EvB EvC EvR
theorem EventTells : shuttlecocklaw04_EventTells.Pure := by
  intro y0 t p h0 _ _
  refine Ev.rounds (g := fun k => shuttlecocklaw04_EventTells.f k y0.f0 y0.f1 y0.f2 y0.f3 t p) ?_
  have out : Ev (fun k => shuttlecocklaw04_EventTells.j0 k t p true y0.f0 y0.f1 y0.f2 y0.f3) true :=
    Ev.step (fun k => shuttlecocklaw04_EventTells.j0.eq_2 ..) (evYes rfl (Ev.bind ev_fixed (Ev.now _)))
  unfold shuttlecocklaw04_EventTells.f
  refine Ev.bind (Short.ev [y0] (by simp)) ?_
  cases hs : shortB [y0] with
  | false => exact evNo (by simp) out
  | true =>
    refine evYes rfl ?_
    simp only [shortB, shortE, List.all_cons, List.all_nil, Bool.and_true, Bool.and_eq_true, decide_eq_true_eq] at hs
    obtain ⟨⟨s1, s2⟩, _⟩ := hs
    by_cases c : (t.size : Int) > 5000
    · rw [decide_eq_true c]
      exact out
    rw [decide_eq_false c]
    refine Ev.step (fun k => shuttlecocklaw04_EventTells.j0.eq_2 ..) (evNo (by simp) ?_)
    refine Ev.bind (Decode.ev t p (by omega)) (Ev.bind (rDecode t p (by omega)) (Ev.bind ev_fixed (evYes rfl ?_)))
    refine Ev.bind (evC (may_f h0.1 ..)) (Ev.bind (rMay y0.f0 y0.f1 y0.f2 y0.f3 (by omega)) (evYes (by simp) ?_))
    refine Ev.bind (Encode.ev y0 h0.1 (by omega)) (Ev.bind (rEncode y0 (by omega) (by omega)) (evYes rfl ?_))
    have hlen : (decT (lst t) p).2.2.1.length ≤ 3 := by
      unfold decT
      split
      · simp
      · split
        · rename_i h
          rcases ((mayE_iff ..).1 (decS_back _ h).1).2 with h | h
          · simp only [h.2, List.length_nil]; omega
          · have := Kind.argsL_length (decS ((lst t).drop p.toNat)).1.f0
            simp only
            omega
        · simp
    refine Ev.bind (Same.refl ⟨(decT (lst t) p).1, (decT (lst t) p).2.1, (decT (lst t) p).2.2.1, (decT (lst t) p).2.2.2.1⟩ _ rfl (by simp only; omega)) ?_
    exact evYes rfl (evYes rfl (evC (by simp)))
end Go.Proofs.Ythechcflnkofgaa.Pure
