/- The bytes of any batch, whether it may be, the batch at any place of any bytes, and a batch's events with their times, or what is wrong, is as the document says. -/
import Derived.Test.YtfcombimnmkoeaaQx16
import Derived.Test.YtfcombimnmkoeaaEv
import Derived.Test.YtfcombimnmkoeaaBatR
set_option linter.unusedVariables false
set_option linter.unusedSimpArgs false
namespace Go.Proofs.Ytfcombimnmkoeaa.Pure
open Go Go.RowKit Go.Proofs.Ytfcombimnmkoeaa.Q Go.Proofs.YtfcombimnmkoeaaW.PrintWords Go.Proofs.YtfcombimnmkoeaaW.PrintLast Go.Proofs.YtfcombimnmkoeaaW.PrintMore ShCore EvA EvB EvC EvD EvQ EvS BatA BatM BatN BatP BatR BatC BatD BatF BatG RefT
theorem flat_len {E : List ES} (h : ∀ e ∈ E, okE e) : E.length ≤ (E.flatMap encE).length := by
  induction E with
  | nil => simp
  | cons e E ih =>
    obtain ⟨c, u, hc⟩ := enc_ne (h e (by simp))
    have := ih (fun x hx => h x (by simp [hx]))
    rw [List.flatMap_cons, List.length_append, hc, List.length_cons, List.length_cons]
    omega
theorem evsT_small (g st b : Int) (s : List UInt8) : (evsT g st b s).1.length ≤ s.length ∧ (evsT g st b s).2.1.length ≤ s.length ∧ ∀ e ∈ (evsT g st b s).1, e.f2.length ≤ 3 := by
  by_cases h : (evsT g st b s).2.2.2 = 0
  · obtain ⟨_, E, h1, h2, h3, _⟩ := evsT_back h
    rw [h1]
    have := flat_len h2
    rw [h3] at this
    exact ⟨this, by simp only [sums_length]; exact this, fun e he => ok_args (h2 e he)⟩
  · obtain ⟨h1, h2, _⟩ := evsT_wrong h
    rw [h1, h2]
    simp
theorem BatchTells : shuttlecocklaw05_BatchTells.Pure := by
  rintro ⟨g, st, b, s⟩ t p h0 h1 h2
  simp only at h0
  have hl := lst_length s
  refine Ev.rounds (g := fun k => shuttlecocklaw05_BatchTells.f k g st b s t p) ?_
  have out : Ev (fun k => shuttlecocklaw05_BatchTells.j0 k t p true g st b s) true :=
    Ev.step (fun k => shuttlecocklaw05_BatchTells.j0.eq_2 ..) (evYes rfl (Ev.bind ev_fixed05 (Ev.now _)))
  unfold shuttlecocklaw05_BatchTells.f
  by_cases c0 : (s.size : Int) > 3000
  · exact evYes c0 out
  refine evNo c0 ?_
  by_cases c1 : (t.size : Int) > 5000
  · rw [decide_eq_true c1]
    exact out
  rw [decide_eq_false c1]
  obtain ⟨s1, s2, s3⟩ := evsT_small g st b (lst s)
  refine Ev.step (fun k => shuttlecocklaw05_BatchTells.j0.eq_2 ..) (evNo (by simp) ?_)
  refine Ev.bind (decEv t p (by omega)) (Ev.bind (rdecEv t p (by omega)) (Ev.bind (evsEv g st b s) (Ev.bind (rEvents g st b s) (Ev.bind ev_fixed05 (evYes rfl ?_)))))
  refine Ev.bind (evC (bmay_f ..)) (Ev.bind (evC (rbmay_f ..)) (evYes (by simp) (Ev.bind (encEv ..) (Ev.bind (rencEv ..) (evYes rfl (evYes (by simp) (evYes rfl (evYes rfl ?_))))))))
  refine Ev.bind (allEv _ _ (by omega) (fun e he => by have := s3 e he; omega)) (evYes (by simp) (Ev.bind (Ints.ev _ _ (by omega)) (evYes (by simp) (evYes rfl (evC (by simp))))))
end Go.Proofs.Ytfcombimnmkoeaa.Pure
