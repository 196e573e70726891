/- What a reader takes in two parts is what it takes at once; more than there is is too short, and nothing is taken. For every input. -/
import Derived.Test.YthbfgggpggjldaaQx7
import Derived.Test.YthbfgggpggjldaaWireP
namespace Go.Proofs.Ythbfgggpggjldaa.Pure
open Go Go.RowKit Go.Proofs.Ythbfgggpggjldaa.Q Go.Proofs.YthbfgggpggjldaaW.PrintWords Go.Proofs.YthbfgggpggjldaaW.PrintLast Go.Proofs.YthbfgggpggjldaaW.PrintMore ShCore

theorem takes1 (s : ByteArray) (n : Int) (hs : s.size ≤ 1000) (h0 : 0 ≤ n) (hn : n ≤ 2000) : Ev (fun k => shuttlecocklaw02_WireTakes.j0 k s n false) true := by
  have hl := lst_length s
  refine Ev.step (fun k => shuttlecocklaw02_WireTakes.j0.eq_2 ..) ?_
  simp only [Bool.false_eq_true, ↓reduceIte]
  have ok : (⟨0, 0, 0⟩ : Rd).ok (lst s) := by unfold Rd.ok; simp
  have t1 := wire_Reader_Take.eq s ⟨0, 0, 0⟩ n (by omega) ok (by omega)
  have ok1 := rdTake_ok ok n
  simp only [wire_New.f, Option.bind_some, t1]
  by_cases c : n > (s.size : Int)
  · have e1 : rdTake (lst s) ⟨0, 0, 0⟩ n = ([], ⟨0, 10, 0⟩) := by
      simp only [rdTake, rdTake0, if_true]
      rw [if_neg (by omega), if_pos (by omega)]
    refine evYes c ?_
    simp only [e1, wire_Reader_Err.f, wire_Reader_At.f, Option.bind_some, toList_lst, lst_arr, ↓reduceIte, BEq.rfl]
    exact Ev.now _
  · obtain ⟨m, rfl⟩ := Int.eq_ofNat_of_zero_le h0
    have e1 : rdTake (lst s) ⟨0, 0, 0⟩ (m : Int) = ((lst s).take m, ⟨m, 0, 0⟩) := by
      simp only [rdTake, rdTake0, if_true]
      rw [if_neg (by omega), if_neg (by omega)]
      simp
    refine evNo c ?_
    rw [e1] at ok1
    simp only [e1]
    have a1 : -9223372036854775808 ≤ (s.size : Int) - m ∧ (s.size : Int) - m < 9223372036854775808 := by omega
    have t2 := wire_Reader_Take.eq s ⟨m, 0, 0⟩ ((s.size : Int) - m) (by omega) ok1 (by omega)
    have e2 : rdTake (lst s) ⟨m, 0, 0⟩ ((s.size : Int) - m) = ((lst s).drop m, ⟨s.size, 0, 0⟩) := by
      simp only [rdTake, rdTake0, if_true]
      rw [if_neg (by omega), if_neg (by omega)]
      refine Prod.ext ?_ ?_
      · simp only [Int.toNat_natCast]
        exact List.take_of_length_le (by rw [List.length_drop]; omega)
      · simp only [Rd.mk.injEq, and_true]
        omega
    rw [e2] at t2
    have e3 := wire_Reader_Done.eq s ⟨s.size, 0, 0⟩
    have e4 : rdDone (lst s) ⟨s.size, 0, 0⟩ = true := by simp [rdDone, hl]
    rw [e4] at e3
    simp only at t2 e3
    simp only [wrap64_of a1.1 a1.2, t2, e3, Option.bind_some, arr_append, List.take_append_drop, arr_lst, ↓reduceIte]
    refine evYes (by rw [size_arr, size_arr, List.length_take, List.length_drop]; omega) (evYes (by rw [size_arr, List.length_take]; omega) ?_)
    exact Ev.now _
theorem WireTakes : shuttlecocklaw02_WireTakes.Pure := by
  intro s n _ _
  refine Ev.rounds (g := fun k => shuttlecocklaw02_WireTakes.f k s n) ?_
  have z : Ev (fun k => shuttlecocklaw02_WireTakes.j0 k s n true) true := by
    refine Ev.step (fun k => shuttlecocklaw02_WireTakes.j0.eq_2 ..) ?_
    simp only [↓reduceIte, shuttlecocklaw02_fixed.f, Option.bind_some]
    exact Ev.now _
  unfold shuttlecocklaw02_WireTakes.f
  simp only [shuttlecocklaw02_fixed.f, Option.bind_some, ↓reduceIte]
  by_cases c1 : (s.size : Int) > 1000
  · exact evYes c1 z
  · refine evNo c1 ?_
    by_cases c2 : n < 0
    · exact evYes c2 z
    · refine evNo c2 ?_
      by_cases c3 : n > 2000
      · simp only [decide_eq_true c3]; exact z
      · simp only [decide_eq_false c3]
        exact takes1 s n (by omega) (by omega) (by omega)
end Go.Proofs.Ythbfgggpggjldaa.Pure
