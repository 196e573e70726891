/- What a kind's arguments are is told the same each time, three at most, each one of the six that there are; a list that is told is its caller's own. For every input. -/
import Derived.Test.YthhohplddgklgaaDoorQx4
import Derived.Test.YthhohplddgklgaaDoorKB
namespace Go.Proofs.YthhohplddgklgaaDoor.Pure
open Go Go.RowKit Go.Proofs.YthhohplddgklgaaDoor.Q Go.Proofs.YthhohplddgklgaaDoorW.PrintWords Go.Proofs.YthhohplddgklgaaDoorW.PrintLast Go.Proofs.YthhohplddgklgaaDoorW.PrintMore ShCore
open Kind (argsL)
theorem six (k : Int) : ∀ x ∈ argsL k, 0 ≤ x ∧ x ≤ 5 := by
  unfold argsL
  (repeat' split) <;> simp
theorem args_l0 (a : Int) (ha : (Lit.int .i64 a).wf = true) : ∀ (rest pre m : List Int), argsL a = pre ++ rest → m.length = (argsL a).length → Ev (fun k => shuttlecocklaw03_KindArgs.l0 k a (argsL a) m (pre.length : Int)) true
  | [], pre, m, e, _ => by
    have hl := Kind.argsL_length a
    exact Ev.step (fun k => shuttlecocklaw03_KindArgs.l0.eq_2 ..) (evNo (by rw [e, List.append_nil]; omega) (Ev.bind (evC (args_f ha)) (Ev.bind (ints_same _ (by omega)) (Ev.now _))))
  | x :: r, pre, m, e, hm => by
    have hl := Kind.argsL_length a
    have hlt : (pre.length : Int) < ((argsL a).length : Int) := by rw [e, List.length_append, List.length_cons]; omega
    have hx := six a x (by rw [e]; simp)
    have ex : rd (argsL a) (pre.length : Int) = x := by rw [e]; exact rd_mid pre x r
    refine Ev.step (fun k => shuttlecocklaw03_KindArgs.l0.eq_2 ..) (evYes hlt (evYes (by omega) ?_))
    rw [ex]
    refine evNo (by omega) (evNo (by omega) (evYes (by rw [hm]; exact hlt) ?_))
    have ih := args_l0 a ha r (pre ++ [x]) (m.set (pre.length : Int).toNat (-1)) (by rw [e]; simp) (by rw [List.length_set, hm])
    rw [show wrap64 ((pre.length : Int) + 1) = ((pre ++ [x]).length : Int) by rw [List.length_append, List.length_singleton]; unfold wrap64; omega]
    exact ih
theorem KindArgs : shuttlecocklaw03_KindArgs.Pure := by
  intro a ha
  have hl := Kind.argsL_length a
  refine Ev.rounds (g := fun k => shuttlecocklaw03_KindArgs.f k a) ?_
  refine Ev.bind (evC (args_f ha)) (Ev.bind (evC (args_f ha)) (Ev.bind ev_fixed (evYes rfl (Ev.bind (ints_same _ (by omega)) (evYes rfl ?_)))))
  rw [decide_eq_false (show ¬ ((argsL a).length : Int) > 3 by omega)]
  exact Ev.step (fun k => shuttlecocklaw03_KindArgs.j0.eq_2 ..) (evNo Bool.false_ne_true (args_l0 a ha (argsL a) [] (argsL a) rfl rfl))
end Go.Proofs.YthhohplddgklgaaDoor.Pure
