/- Any kind's name, what its arguments are, whether it is known, or experimental, and the kind of any name, is as the document says. For every input. -/
import Derived.Test.YthhohplddgklgaaDoorQx2
import Derived.Test.YthhohplddgklgaaDoorKB
namespace Go.Proofs.YthhohplddgklgaaDoor.Pure
open Go Go.RowKit Go.Proofs.YthhohplddgklgaaDoor.Q Go.Proofs.YthhohplddgklgaaDoorW.PrintWords Go.Proofs.YthhohplddgklgaaDoorW.PrintLast Go.Proofs.YthhohplddgklgaaDoorW.PrintMore ShCore
open Kind (nameF knownB expB argsL ofF)
theorem KindTells : shuttlecocklaw03_KindTells.Pure := by
  intro a s ha _
  refine Ev.rounds (g := fun k => shuttlecocklaw03_KindTells.f k a s) ?_
  by_cases c1 : (s.size : Int) > 100
  · exact evYes c1 (Ev.bind ev_fixed (Ev.now _))
  have hE : kind_Exp.f a = some (expB a) := by
    unfold kind_Exp.f expB
    by_cases h : a ≥ 128
    · rw [if_pos h, decide_eq_true (show 128 ≤ a from h)]; rfl
    · rw [if_neg h, decide_eq_false (show ¬ 128 ≤ a from h)]; rfl
  have hl := Kind.argsL_length a
  refine evNo c1 (Ev.bind ev_fixed (evYes rfl ?_))
  refine Ev.bind (evC (if_pos ha : kind_Name.f a = some (nameF a))) (Ev.bind (name_ev a) (evYes rfl ?_))
  refine Ev.bind (evC (args_f ha)) (Ev.bind (argsR_ev a) (Ev.bind (ints_same _ (by omega)) (evYes rfl ?_)))
  refine Ev.bind (evC (if_pos ha : kind_Known.f a = some (knownB a))) (Ev.bind (evC (known_f a)) (evYes (beq_self_eq_true _) ?_))
  refine Ev.bind (evC hE) (Ev.bind (evC (exp_f a)) (evYes (beq_self_eq_true _) ?_))
  refine Ev.bind (evC (if_pos (by omega) : kind_Of.f s = some (ofF s))) (Ev.bind (ofRef_ev s) ?_)
  rw [beq_self_eq_true]
  exact Ev.now _
end Go.Proofs.YthhohplddgklgaaDoor.Pure
