/- Behind an error a reader reads nothing any more, and the error is the first one. For every input. -/
import Derived.Test.YthbfgggpggjldaaQx7
import Derived.Test.YthbfgggpggjldaaWireP
namespace Go.Proofs.Ythbfgggpggjldaa.Pure
open Go Go.RowKit Go.Proofs.Ythbfgggpggjldaa.Q Go.Proofs.YthbfgggpggjldaaW.PrintWords Go.Proofs.YthbfgggpggjldaaW.PrintLast Go.Proofs.YthbfgggpggjldaaW.PrintMore ShCore

theorem stuck1 (s : ByteArray) (hs : s.size ≤ 1000) : Ev (fun k => shuttlecocklaw02_WireStuck.j0 k s false) true := by
  have hl := lst_length s
  refine Ev.step (fun k => shuttlecocklaw02_WireStuck.j0.eq_2 ..) ?_
  simp only [Bool.false_eq_true, ↓reduceIte]
  have ok : (⟨0, 0, 0⟩ : Rd).ok (lst s) := by unfold Rd.ok; simp
  have ok1 : (⟨0, 10, 0⟩ : Rd).ok (lst s) := by unfold Rd.ok; simp
  have a1 := wrap_succ s.size (by omega)
  have t1 := rTake s 0 0 0 ((s.size : Int) + 1) (by omega) ok (succ_big s.size (by omega)) (stuck_take (lst s) (by omega) s.size hl)
  have t2 := rNum s 0 10 0 (n := 0) (a' := 0) (e' := 10) (f' := 0) (by omega) (by simp [rdNum])
  have t3 := rByte s 0 10 0 (n := 0) (a' := 0) (e' := 10) (f' := 0) (by omega) ok1 (by simp [rdByte, rdTake])
  have t4 := rText' s 0 10 0 (l := []) (a' := 0) (e' := 10) (f' := 0) (by omega) ok1 (by simp [rdText])
  have t5 := rTake s 0 10 0 0 (l := []) (a' := 0) (e' := 10) (f' := 0) (by omega) ok1 (by omega) (by simp [rdTake])
  have t6 := rDone s 0 10 0 (b := false) (by simp [rdDone])
  rw [a1]
  generalize (s.size : Int) + 1 = N at t1 ⊢
  refine Ev.bind (evC (show wire_New.f s = some (s, 0, 0, 0) from rfl)) ?_
  refine Ev.bind (evC t1) ?_
  refine Ev.bind (evC (show wire_Reader_Err.f s 0 10 0 = some (10, 0, s, 0, 10, 0) from rfl)) ?_
  refine Ev.bind t2 ?_
  refine Ev.bind (evC t3) ?_
  refine Ev.bind t4 ?_
  refine Ev.bind (evC t5) ?_
  refine Ev.bind (evC (show wire_Reader_Err.f s 0 10 0 = some (10, 0, s, 0, 10, 0) from rfl)) ?_
  refine evYes rfl (evYes rfl (evYes (by rw [toList_lst, lst_arr]) (evYes (by rw [toList_lst, lst_arr]) (evYes rfl (evYes rfl (evYes rfl (evYes rfl ?_)))))))
  refine Ev.bind (evC t6) ?_
  exact Ev.now _
theorem WireStuck : shuttlecocklaw02_WireStuck.Pure := by
  intro s _
  refine Ev.rounds (g := fun k => shuttlecocklaw02_WireStuck.f k s) ?_
  unfold shuttlecocklaw02_WireStuck.f
  simp only [shuttlecocklaw02_fixed.f, Option.bind_some, ↓reduceIte]
  by_cases c1 : (s.size : Int) > 1000
  · simp only [decide_eq_true c1]
    refine Ev.step (fun k => shuttlecocklaw02_WireStuck.j0.eq_2 ..) ?_
    simp only [↓reduceIte, shuttlecocklaw02_fixed.f, Option.bind_some]
    exact Ev.now _
  · simp only [decide_eq_false c1]
    exact stuck1 s (by omega)
end Go.Proofs.Ythbfgggpggjldaa.Pure
