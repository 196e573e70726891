/- The next time is the least one; at it somebody is due, ahead of it nobody. For every input. -/
import Derived.Test.YtlaneipibmjmbaaQx11
import Derived.Test.YtlaneipibmjmbaaSleepP
namespace Go.Proofs.Ytlaneipibmjmbaa.Pure
open Go Go.RowKit Go.Proofs.Ytlaneipibmjmbaa.Q Go.Proofs.YtlaneipibmjmbaaW.PrintWords Go.Proofs.YtlaneipibmjmbaaW.PrintLast Evs
theorem SleepNext : shuttlecocklaw11_SleepNext.Pure := by
  intro l hl
  have hw : wfT l = true := List.all_eq_true.2 (fun x hx => (hl.1 x hx).2)
  refine Ev.rounds (g := fun k => shuttlecocklaw11_SleepNext.f k l) ?_
  have out : Ev (fun k => shuttlecocklaw11_SleepNext.j0 k l true) true := Ev.step (fun k => shuttlecocklaw11_SleepNext.j0.eq_2 ..) (evYes rfl (Ev.bind ev_fixed (Ev.now _)))
  refine Ev.bind ev_fixed (evYes rfl ?_)
  by_cases c : (l.length : Int) > 200
  · exact evYes c out
  · refine evNo c (Ev.bind (evC (may_f hw)) ?_)
    cases hm : mayB l with
    | false => exact out
    | true =>
      have hM := (may_iff l).1 hm
      refine Ev.step (fun k => shuttlecocklaw11_SleepNext.j0.eq_2 ..) (evNo (by simp) (Ev.bind (evC (next_f hw)) ?_))
      cases l with
      | nil => exact evYes rfl (by simpa [nextL] using Ev.now (α := Bool) true)
      | cons t r =>
        have hnx : nextL (t :: r) = t.f0 := by
          unfold nextL
          rw [if_neg (by simp), hm, if_pos rfl]
          rfl
        rw [hnx]
        have ht := hM.1 t List.mem_cons_self
        have hle : ∀ x ∈ t :: r, t.f0 ≤ x.f0 := fun x hx => by
          rcases List.mem_cons.1 hx with rfl | hx
          · exact Int.le_refl _
          · have := (aheadT_iff t x).1 ((List.pairwise_cons.1 hM.2.1).1 x hx)
            omega
        refine evNo (by simp only [List.length_cons]; omega) ?_
        refine Ev.bind (ev_Due hw (by simp only [List.length_cons] at c ⊢; omega) _) ?_
        refine Ev.bind (ev_Due hw (by simp only [List.length_cons] at c ⊢; omega) _) ?_
        rw [wrap_in (by omega) (by omega)]
        have e1 : (dueL (t :: r) t.f0).1.length > 0 := by
          unfold dueL
          rw [hm, if_pos rfl]
          simp [isDue]
        have e2 : (dueL (t :: r) (t.f0 - 1)).1 = [] := by
          unfold dueL
          rw [hm, if_pos rfl]
          have : (t :: r).filter (isDue (t.f0 - 1)) = [] := List.filter_eq_nil_iff.2 (fun x hx => by
            have := hle x hx
            unfold isDue
            simp
            omega)
          simp [this]
        have key : ∀ (d i : Nat), i + d = (t :: r).length → Ev (fun k => shuttlecocklaw11_SleepNext.l0 k (t :: r) t.f0 (dueL (t :: r) t.f0).1 (dueL (t :: r) (t.f0 - 1)).1 i) true := by
          intro d
          induction d with
          | zero =>
            intro i hi
            refine Ev.step (fun k => shuttlecocklaw11_SleepNext.l0.eq_2 ..) (evNo (by omega) (evYes (by omega) ?_))
            rw [e2]
            exact Ev.now _
          | succ d ih =>
            intro i hi
            refine Ev.step (fun k => shuttlecocklaw11_SleepNext.l0.eq_2 ..) (evYes (by omega) (evYes (by omega) (evNo ?_ ?_)))
            · rw [rdT_at _ i (by omega)]
              have := hle _ (List.getElem_mem (show i < (t :: r).length by omega))
              omega
            · rw [wrap_in (by omega) (by omega)]
              exact ih (i + 1) (by omega)
        exact key (t :: r).length 0 (by simp)
end Go.Proofs.Ytlaneipibmjmbaa.Pure
