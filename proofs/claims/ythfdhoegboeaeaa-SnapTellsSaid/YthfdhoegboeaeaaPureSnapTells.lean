/- Whether any snap may be, its bytes, and the snap of any bytes, or what is wrong, is as the document says. For every input. -/
import Derived.Test.YthfdhoegboeaeaaQx15
import Derived.Test.YthfdhoegboeaeaaSnapR
set_option linter.unusedVariables false
namespace Go.Proofs.Ythfdhoegboeaeaa.Pure
open Go Go.RowKit Go.Proofs.Ythfdhoegboeaeaa.Q Go.Proofs.YthfdhoegboeaeaaW.PrintWords Go.Proofs.YthfdhoegboeaeaaW.PrintLast Go.Proofs.YthfdhoegboeaeaaW.PrintMore ShCore SnapA SnapB SnapC SnapR
theorem small_f (a : Int) (ps : List PS) (gs : List GS) : shuttlecockref08_Small.f a ps gs = some (decide (ps.length ≤ 70 ∧ gs.length ≤ 100)) := by
  unfold shuttlecockref08_Small.f
  by_cases h : ps.length ≤ 70
  · rw [if_pos (by omega)]
    congr 1
    by_cases h2 : gs.length ≤ 100
    · rw [decide_eq_true (by omega), decide_eq_true ⟨h, h2⟩]
    · rw [decide_eq_false (by omega), decide_eq_false (by omega)]
  · rw [if_neg (by omega), decide_eq_false (by omega)]
theorem dec_small (s : List UInt8) : (decL s).2.1.length ≤ 64 ∧ (decL s).2.2.1.length ≤ 1000 := by
  have h := dec_back s
  by_cases c : (decL s).2.2.2 = 0
  · exact ⟨(h.1 c).1.2.1, (h.1 c).1.2.2.1⟩
  · obtain ⟨_, h1, h2⟩ := h.2 c
    rw [h1, h2]
    simp
theorem SnapTells : shuttlecocklaw08_SnapTells.Pure := by
  intro y t _ ht
  obtain ⟨a, ps, gs⟩ := y
  refine Ev.rounds (g := fun k => shuttlecocklaw08_SnapTells.f k a ps gs t) ?_
  unfold shuttlecocklaw08_SnapTells.f
  simp only [small_f, Option.bind_some]
  have out : Ev (fun k => shuttlecocklaw08_SnapTells.j0 k t true a ps gs) true := by
    refine Ev.step (fun k => shuttlecocklaw08_SnapTells.j0.eq_2 ..) ?_
    exact evYes rfl (Ev.bind ev_fixed (Ev.now _))
  by_cases c : ps.length ≤ 70 ∧ gs.length ≤ 100
  · rw [decide_eq_true c]
    refine evYes rfl ?_
    by_cases c2 : (t.size : Int) > 2000
    · rw [decide_eq_true c2]
      exact out
    · rw [decide_eq_false c2]
      refine Ev.step (fun k => shuttlecocklaw08_SnapTells.j0.eq_2 ..) ?_
      refine evNo (by simp) ?_
      have hs : t.size < 4611686018427387904 := by omega
      refine Ev.bind (Decode.ev t hs) ?_
      refine Ev.bind (rDecode.ev t hs) ?_
      refine Ev.bind ev_fixed (evYes rfl ?_)
      simp only [may_f, rmay_f, Option.bind_some]
      refine evYes (by simp) ?_
      refine Ev.bind (Encode.ev a ps gs) ?_
      refine Ev.bind (rEncode.ev a ps gs) ?_
      refine evYes rfl ?_
      have hl := dec_small (lst t)
      refine Ev.bind (Same.ev _ _ _ _ _ _ (by omega) (by omega)) ?_
      refine evYes (by simp) ?_
      simp only [beq_self_eq_true]
      exact Ev.now _
  · rw [decide_eq_false c]
    exact evNo (by simp) out
end Go.Proofs.Ythfdhoegboeaeaa.Pure
