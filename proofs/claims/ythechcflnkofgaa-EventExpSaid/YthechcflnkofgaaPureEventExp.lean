/- Experimental events can be passed over, whatever their text. For every input. -/
import Derived.Test.YthechcflnkofgaaQx18
import Derived.Test.YthechcflnkofgaaEvC
set_option linter.unusedVariables false
set_option linter.unusedSimpArgs false
namespace Go.Proofs.Ythechcflnkofgaa.Pure
open Go Go.RowKit Go.Proofs.Ythechcflnkofgaa.Q Go.Proofs.YthechcflnkofgaaW.PrintWords Go.Proofs.YthechcflnkofgaaW.PrintLast Go.Proofs.YthechcflnkofgaaW.PrintMore ShCore EvA EvB EvC
theorem EventExp : shuttlecocklaw04_EventExp.Pure := by
  intro a0 a1 a2 hw0 hw1 ht
  refine Ev.rounds (g := fun k => shuttlecocklaw04_EventExp.f k a0 a1 a2) ?_
  have out : Ev (fun k => shuttlecocklaw04_EventExp.j0 k a0 a1 a2 true) true :=
    Ev.step (fun k => shuttlecocklaw04_EventExp.j0.eq_2 ..) (evYes rfl (Ev.bind ev_fixed (Ev.now _)))
  unfold shuttlecocklaw04_EventExp.f
  refine Ev.bind ev_fixed (evYes rfl ?_)
  by_cases c1 : a0 < 128
  · exact evYes c1 out
  refine evNo c1 ?_
  by_cases c2 : a0 > 255
  · exact evYes c2 out
  refine evNo c2 ?_
  by_cases c3 : a1 < 0
  · exact evYes c3 out
  refine evNo c3 ?_
  by_cases c4 : a1 ≥ 4611686018427387904
  · exact evYes c4 out
  refine evNo c4 ?_
  by_cases c5 : (a2.size : Int) > 1000
  · rw [decide_eq_true c5]
    exact out
  rw [decide_eq_false c5]
  refine Ev.step (fun k => shuttlecocklaw04_EventExp.j0.eq_2 ..) (evNo (by simp) ?_)
  have hx : expE a0 = true := (expE_iff _).2 (by omega)
  have hm : mayE a0 a1 [] a2 = true := (mayE_iff ..).2 ⟨(fitsE_iff _).2 (by omega), .inl ⟨hx, rfl⟩⟩
  have hm8 : mayE 8 0 [] ⟨#[]⟩ = true := by decide +kernel
  have h1 := Encode.ev ⟨a0, a1, [], a2⟩ hw0 (by simp only; omega)
  have h8 := Encode.ev ⟨8, 0, [], ⟨#[]⟩⟩ (by decide +kernel) (by show (0 : Nat) < _; omega)
  have l1 := enc_len ⟨a0, a1, [], a2⟩
  have l8 := enc_len ⟨8, 0, [], ⟨#[]⟩⟩
  simp only [List.length_nil] at l1 l8
  rw [show (⟨#[]⟩ : ByteArray).size = 0 from rfl] at l8
  refine Ev.bind h1 (Ev.bind h8 (evYes (by rw [size_arr, size_arr]; omega) ?_))
  have d1 := Decode.ev (arr (encE ⟨a0, a1, [], a2⟩) ++ arr (encE ⟨8, 0, [], ⟨#[]⟩⟩)) 0 (by rw [size_append', size_arr, size_arr]; omega)
  have e1 := decT_enc [] (encE ⟨8, 0, [], ⟨#[]⟩⟩) ⟨a0, a1, [], a2⟩ hm (by simp only; omega)
  rw [arr_append, lst_arr] at d1
  simp only [List.nil_append, List.length_nil, Nat.zero_add, Int.natCast_zero] at e1
  have d2 := Decode.ev (arr (encE ⟨a0, a1, [], a2⟩) ++ arr (encE ⟨8, 0, [], ⟨#[]⟩⟩)) (((encE ⟨a0, a1, [], a2⟩).length : Nat) : Int) (by rw [size_append', size_arr, size_arr]; omega)
  have e2 := decT_enc (encE ⟨a0, a1, [], a2⟩) [] ⟨8, 0, [], ⟨#[]⟩⟩ hm8 (by show (0 : Nat) < _; omega)
  rw [arr_append, lst_arr] at d2
  rw [List.append_nil] at e2
  rw [e1] at d1
  rw [e2] at d2
  rw [arr_append]
  refine Ev.bind d1 (Ev.bind h8 (evYes (by rw [size_arr, size_arr]; omega) ?_))
  rw [arr_append]
  refine Ev.bind d2 ?_
  exact evYes rfl (evYes rfl (evYes rfl (evYes rfl (evYes rfl (evYes rfl (Ev.now _))))))
end Go.Proofs.Ythechcflnkofgaa.Pure
