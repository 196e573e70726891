/- What is put at a time behind the last one is put; ahead of it it is not, and of an empty buffer any time is. -/
import Derived.Test.YtgpnkgmghnmmjaaQx18
import Derived.Test.YtgpnkgmghnmmjaaEv
set_option linter.unusedVariables false
set_option linter.unusedSimpArgs false
namespace Go.Proofs.Ytgpnkgmghnmmjaa.Pure
open Go Go.RowKit Go.Proofs.Ytgpnkgmghnmmjaa.Q Go.Proofs.YtgpnkgmghnmmjaaW.PrintWords Go.Proofs.YtgpnkgmghnmmjaaW.PrintLast Go.Proofs.YtgpnkgmghnmmjaaW.PrintMore ShCore EvA EvB EvC BatA BatM BufA BufB
theorem may_exit (d : Int) (h : fitsE d = true) : mayE 8 d [] ⟨#[]⟩ = true := (mayE_iff ..).2 ⟨h, .inr ⟨rfl, rfl, rfl, rfl, by simp⟩⟩
theorem BufLater : shuttlecocklaw19_BufLater.Pure := by
  rintro ⟨m, b, l, s⟩ t h0 h1
  simp only at h0
  have hl := lst_length s
  refine Ev.rounds (g := fun k => shuttlecocklaw19_BufLater.f k m b l s t) ?_
  have out : Ev (fun k => shuttlecocklaw19_BufLater.j0 k t true m b l s) true :=
    Ev.step (fun k => shuttlecocklaw19_BufLater.j0.eq_2 ..) (evYes rfl (Ev.bind ev_fixed19 (Ev.now _)))
  unfold shuttlecocklaw19_BufLater.f
  refine Ev.bind ev_fixed19 (evYes rfl ?_)
  by_cases c : (s.size : Int) > 3000
  · exact evYes c out
  refine evNo c ?_
  by_cases c0 : t < 0
  · exact evYes c0 out
  refine evNo c0 ?_
  by_cases c1 : t ≥ 4611686018427387904
  · exact evYes c1 out
  refine evNo c1 ?_
  by_cases c2 : l < 0
  · rw [decide_eq_true c2]
    exact out
  rw [decide_eq_false c2]
  have hf : fitsE t = true := (fitsE_iff t).2 (by omega)
  refine Ev.step (fun k => shuttlecocklaw19_BufLater.j0.eq_2 ..) (evNo (by simp) ?_)
  have P := putEv (a := 8) rfl 7 [] ⟨#[]⟩ (by decide) s (by omega) t m b l
  by_cases c3 : lst s = []
  · have hm := may_exit 0 rfl
    obtain ⟨q, u, hu⟩ := enc_ne (e := ⟨8, 0, [], ⟨#[]⟩⟩) ⟨hm, by decide⟩
    have hz : s.size = 0 := by rw [← hl, c3]; rfl
    have hp : (arr (encE ⟨8, 0, [], ⟨#[]⟩⟩)).size = u.length + 1 := by rw [size_arr, hu]; rfl
    have e : putB m b l s t 8 [] ⟨#[]⟩ = (m, t, t, arr (encE ⟨8, 0, [], ⟨#[]⟩⟩), true) := by
      unfold putB
      rw [if_pos hf, if_pos c3, if_pos hm]
    rw [e] at P
    generalize encE ⟨8, 0, [], ⟨#[]⟩⟩ = W at P hp
    refine Ev.bind P (evYes (by rw [toList_lst]; exact c3) (evYes rfl (evYes rfl (evYes rfl (evYes (by simp only [hp]; omega) (evYes (by omega) (evYes (by simp only [hp]; omega) (evYes ?_ (evC (by simp))))))))))
    simp only
    rw [toList_lst, toList_lst, lst_extract, c3, hz]
    rfl
  · by_cases c4 : t < l
    · have e : putB m b l s t 8 [] ⟨#[]⟩ = noBuf := by
        unfold putB
        rw [if_pos hf, if_neg c3, if_pos c4]
      rw [e] at P
      exact Ev.bind P (evNo (by rw [toList_lst]; exact c3) (evYes c4 (evNo (by simp) (evC (by simp only [toList_lst]; rfl)))))
    · have ew : wrap64 (t - l) = t - l := wrap64_of (by omega) (by omega)
      have hf2 : fitsE (wrap64 (t - l)) = true := (fitsE_iff _).2 (by rw [ew]; omega)
      have hm := may_exit _ hf2
      obtain ⟨q, u, hu⟩ := enc_ne (e := ⟨8, wrap64 (t - l), [], ⟨#[]⟩⟩) ⟨hm, by show (0 : Nat) < _; omega⟩
      have hp : (s ++ arr (encE ⟨8, wrap64 (t - l), [], ⟨#[]⟩⟩)).size = s.size + (u.length + 1) := by rw [size_append', size_arr, hu]; rfl
      have e : putB m b l s t 8 [] ⟨#[]⟩ = (m, b, t, s ++ arr (encE ⟨8, wrap64 (t - l), [], ⟨#[]⟩⟩), true) := by
        unfold putB
        rw [if_pos hf, if_neg c3, if_neg c4, if_pos hm]
      rw [e] at P
      generalize encE ⟨8, wrap64 (t - l), [], ⟨#[]⟩⟩ = W at P hp
      refine Ev.bind P (evNo (by rw [toList_lst]; exact c3) (evNo c4 (evYes rfl (evYes rfl (evYes rfl (evYes (by simp only [hp]; omega) (evYes (by omega) (evYes (by simp only [hp]; omega) (evYes ?_ (evYes rfl (Ev.now _)))))))))))
      simp only
      rw [toList_lst, toList_lst, lst_extract, lst_append, List.drop_zero, Int.toNat_natCast, Nat.sub_zero, ← hl, List.take_left]
end Go.Proofs.Ytgpnkgmghnmmjaa.Pure
