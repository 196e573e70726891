/- Whether any timers may be, what they are with one more, who is due, and when the next one is, is as the document says. For every input. -/
import Derived.Test.YtlaneipibmjmbaaQx9
import Derived.Test.YtlaneipibmjmbaaSleepP
namespace Go.Proofs.Ytlaneipibmjmbaa.Pure
open Go Go.RowKit Go.Proofs.Ytlaneipibmjmbaa.Q Go.Proofs.YtlaneipibmjmbaaW.PrintWords Go.Proofs.YtlaneipibmjmbaaW.PrintLast Evs
theorem SleepTells : shuttlecocklaw11_SleepTells.Pure := by
  intro l t now hl ht hn
  have hw : wfT l = true := List.all_eq_true.2 (fun x hx => (hl.1 x hx).2)
  refine Ev.rounds (g := fun k => shuttlecocklaw11_SleepTells.f k l t.f0 t.f1 now) ?_
  unfold shuttlecocklaw11_SleepTells.f
  by_cases c : (l.length : Int) > 200
  · exact evYes c (Ev.bind ev_fixed (Ev.now _))
  · refine evNo c ?_
    refine Ev.bind (evC (put_f hw ht.2 (by omega))) ?_
    refine Ev.bind (ev_rPut (by omega) t (by omega)) ?_
    refine Ev.bind (ev_Due hw (by omega) now) ?_
    refine Ev.bind (ev_rDue (by omega) now) ?_
    refine Ev.bind ev_fixed (evYes rfl ?_)
    refine Ev.bind (evC (may_f hw)) ?_
    refine Ev.bind (ev_rMay (by omega)) ?_
    refine evYes (by simp) ?_
    have h1 : (putR l (insAt l t (bsT l t))).1.length < 4611686018427387904 := by
      unfold putR
      have := insAt_len l t (bsT l t) (bsT_le l t)
      split
      · simp only; omega
      · simp
    refine Ev.bind (ev_Same h1) (evYes rfl (evYes (by simp) ?_))
    have h2 : (dueL l now).1.length < 4611686018427387904 := by
      unfold dueL
      have := List.length_filter_le (isDue now) l
      split
      · simp only [List.length_map]; omega
      · simp
    have h3 : (dueL l now).2.length < 4611686018427387904 := by
      unfold dueL
      have := List.length_filter_le (fun t => !isDue now t) l
      split
      · simp only; omega
      · simp
    refine Ev.bind (ev_Ints h2) (evYes rfl ?_)
    refine Ev.bind (ev_Same h3) (evYes rfl ?_)
    refine Ev.bind (evC (next_f hw)) ?_
    refine Ev.bind (ev_rNext (by omega)) ?_
    simpa using Ev.now (α := Bool) true
end Go.Proofs.Ytlaneipibmjmbaa.Pure
