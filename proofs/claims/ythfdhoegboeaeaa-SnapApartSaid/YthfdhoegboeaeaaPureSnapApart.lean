/- Unlike snaps that may be have unlike bytes; another time changes nothing else. For every input. -/
import Derived.Test.YthfdhoegboeaeaaQx18
import Derived.Test.YthfdhoegboeaeaaSnapC
set_option linter.unusedVariables false
namespace Go.Proofs.Ythfdhoegboeaeaa.Pure
open Go Go.RowKit Go.Proofs.Ythfdhoegboeaeaa.Q Go.Proofs.YthfdhoegboeaeaaW.PrintWords Go.Proofs.YthfdhoegboeaeaaW.PrintLast Go.Proofs.YthfdhoegboeaeaaW.PrintMore ShCore SnapA SnapB SnapC
theorem small_f (a : Int) (ps : List PS) (gs : List GS) : ∃ b, shuttlecockref08_Small.f a ps gs = some b := by
  unfold shuttlecockref08_Small.f
  by_cases h : (ps.length : Int) ≤ 70
  · rw [if_pos h]; exact ⟨_, rfl⟩
  · rw [if_neg h]; exact ⟨_, rfl⟩
theorem SnapApart : shuttlecocklaw08_SnapApart.Pure := by
  intro y z time _ _ _
  obtain ⟨a, ps, gs⟩ := y
  obtain ⟨b, qs, hs⟩ := z
  refine Ev.rounds (g := fun k => shuttlecocklaw08_SnapApart.f k a ps gs b qs hs time) ?_
  have out : Ev (fun k => shuttlecocklaw08_SnapApart.j0 k time true a ps gs b qs hs) true := by
    refine Ev.step (fun k => shuttlecocklaw08_SnapApart.j0.eq_2 ..) ?_
    exact evYes rfl (Ev.bind ev_fixed (Ev.now _))
  unfold shuttlecocklaw08_SnapApart.f
  refine Ev.bind ev_fixed (evYes rfl ?_)
  obtain ⟨b1, e1⟩ := small_f a ps gs
  obtain ⟨b2, e2⟩ := small_f b qs hs
  simp only [e1, e2, may_f, Option.bind_some]
  cases b1 with
  | false => exact evNo (by simp) out
  | true =>
  refine evYes rfl ?_
  cases b2 with
  | false => exact evNo (by simp) out
  | true =>
  refine evYes rfl ?_
  by_cases m1 : ¬ (mayAll a ps gs = true)
  · exact evNo m1 out
  replace m1 := Classical.not_not.1 m1
  refine evYes m1 ?_
  by_cases m2 : ¬ (mayAll b qs hs = true)
  · exact evNo m2 out
  replace m2 := Classical.not_not.1 m2
  refine evYes m2 ?_
  by_cases t0 : time < 0
  · exact evYes t0 out
  refine evNo t0 ?_
  by_cases t1 : time ≥ 4611686018427387904
  · rw [decide_eq_true t1]
    exact out
  rw [decide_eq_false t1]
  refine Ev.step (fun k => shuttlecocklaw08_SnapApart.j0.eq_2 ..) ?_
  refine evNo (by simp) ?_
  have o1 := (may_iff _ _ _).1 m1
  have o2 := (may_iff _ _ _).1 m2
  have o3 : SnapOk time ps gs := ⟨⟨by omega, by omega⟩, o1.2⟩
  have m3 := (may_iff _ _ _).2 o3
  have f1 : encL' a ps gs = encB a ps gs := by unfold encL'; rw [if_pos m1]
  have f2 : encL' b qs hs = encB b qs hs := by unfold encL'; rw [if_pos m2]
  have f3 : encL' time ps gs = encB time ps gs := by unfold encL'; rw [if_pos m3]
  refine Ev.bind (Encode.ev time ps gs) ?_
  refine Ev.bind (Decode.ev _ (by rw [size_arr, f3]; have := encB_len o3; omega)) ?_
  refine Ev.bind (Encode.ev a ps gs) ?_
  refine Ev.bind (Encode.ev b qs hs) ?_
  refine Ev.bind (Same.ev a b ps qs gs hs (by have := o1.2.1; omega) (by have := o1.2.2.1; omega)) ?_
  rw [toList_lst, toList_lst, lst_arr, lst_arr, lst_arr, f1, f2, f3, dec_enc o3]
  refine evYes ?_ ?_
  · have e : (encB a ps gs == encB b qs hs) = decide (a = b ∧ ps = qs ∧ gs = hs) := by
      by_cases c : a = b ∧ ps = qs ∧ gs = hs
      · obtain ⟨rfl, rfl, rfl⟩ := c
        simp
      · rw [decide_eq_false c]
        refine beq_eq_false_iff_ne.2 fun h => c ?_
        have d1 := dec_enc o1
        rw [h, dec_enc o2] at d1
        simp only [Prod.mk.injEq, and_true] at d1
        exact ⟨d1.1.symm, d1.2.1.symm, d1.2.2.symm⟩
    rw [e]
    simp
  · refine evYes m3 (evYes rfl ?_)
    refine Ev.bind (Same.ev time time ps ps gs gs (by have := o1.2.1; omega) (by have := o1.2.2.1; omega)) ?_
    simp only [and_self, decide_true]
    exact Ev.now _
end Go.Proofs.Ythfdhoegboeaeaa.Pure
