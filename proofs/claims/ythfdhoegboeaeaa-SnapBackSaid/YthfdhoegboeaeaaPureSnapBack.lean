/- A snap that may be is decoded from its bytes; what is decoded may be, and has just these bytes; cut off it is too short. For every input. -/
import Derived.Test.YthfdhoegboeaeaaQx16
import Derived.Test.YthfdhoegboeaeaaSnapC
set_option linter.unusedVariables false
namespace Go.Proofs.Ythfdhoegboeaeaa.Pure
open Go Go.RowKit Go.Proofs.Ythfdhoegboeaeaa.Q Go.Proofs.YthfdhoegboeaeaaW.PrintWords Go.Proofs.YthfdhoegboeaeaaW.PrintLast Go.Proofs.YthfdhoegboeaeaaW.PrintMore ShCore SnapA SnapB SnapC
theorem small_f (a : Int) (ps : List PS) (gs : List GS) : ∃ b, shuttlecockref08_Small.f a ps gs = some b := by
  unfold shuttlecockref08_Small.f
  by_cases h : (ps.length : Int) ≤ 70
  · rw [if_pos h]; exact ⟨_, rfl⟩
  · rw [if_neg h]; exact ⟨_, rfl⟩
theorem back1 (a : Int) (ps : List PS) (gs : List GS) (cut : Int) : Ev (fun k => shuttlecocklaw08_SnapBack.j1 k cut false a ps gs) true := by
  refine Ev.step (fun k => shuttlecocklaw08_SnapBack.j1.eq_2 ..) ?_
  refine evNo (by simp) ?_
  refine Ev.bind (Encode.ev a ps gs) ?_
  rw [toList_lst, lst_arr]
  by_cases m : mayAll a ps gs = true
  · have o := (may_iff _ _ _).1 m
    have f : encL' a ps gs = encB a ps gs := by unfold encL'; rw [if_pos m]
    have hl := encB_len o
    rw [f]
    refine evNo (enc_ne o) ?_
    refine Ev.bind (Decode.ev _ (by rw [size_arr]; omega)) ?_
    rw [lst_arr, dec_enc o]
    refine evYes rfl ?_
    refine Ev.bind (Same.ev a a ps ps gs gs (by have := o.2.1; omega) (by have := o.2.2.1; omega)) ?_
    simp only [and_self, decide_true, Bool.not_true]
    refine Ev.step (fun k => shuttlecocklaw08_SnapBack.j2.eq_2 ..) ?_
    refine evNo (by simp) ?_
    by_cases c0 : cut < 0
    · exact evYes c0 (Ev.now _)
    refine evNo c0 ?_
    by_cases c1 : cut ≥ ((arr (encB a ps gs)).size : Int)
    · exact evYes c1 (Ev.now _)
    refine evNo c1 (evYes (by omega) (evYes (by omega) ?_))
    rw [size_arr] at c1
    refine Ev.bind (Decode.ev _ (by rw [← lst_length, lst_extract, List.length_take, List.length_drop, lst_arr]; omega)) ?_
    rw [lst_extract, lst_arr, List.drop_zero, Nat.sub_zero, dec_cut o, if_neg (by omega)]
    exact Ev.now _
  · have f : encL' a ps gs = [] := by unfold encL'; rw [if_neg m]
    rw [f]
    refine evYes rfl ?_
    have m' : mayAll a ps gs = false := by simpa using m
    simp only [may_f, Option.bind_some, m', Bool.not_false]
    exact Ev.now _
theorem SnapBack : shuttlecocklaw08_SnapBack.Pure := by
  intro y t cut _ ht _
  obtain ⟨a, ps, gs⟩ := y
  refine Ev.rounds (g := fun k => shuttlecocklaw08_SnapBack.f k a ps gs t cut) ?_
  have out : Ev (fun k => shuttlecocklaw08_SnapBack.j0 k t cut true a ps gs) true := by
    refine Ev.step (fun k => shuttlecocklaw08_SnapBack.j0.eq_2 ..) ?_
    exact evYes rfl (Ev.bind ev_fixed (Ev.now _))
  unfold shuttlecocklaw08_SnapBack.f
  refine Ev.bind ev_fixed (evYes rfl ?_)
  obtain ⟨b1, e1⟩ := small_f a ps gs
  simp only [e1, Option.bind_some]
  cases b1 with
  | false => exact evNo (by simp) out
  | true =>
  refine evYes rfl ?_
  by_cases c2 : (t.size : Int) > 2000
  · rw [decide_eq_true c2]
    exact out
  rw [decide_eq_false c2]
  refine Ev.step (fun k => shuttlecocklaw08_SnapBack.j0.eq_2 ..) ?_
  refine evNo (by simp) ?_
  have hb := dec_back (lst t)
  refine Ev.bind (Decode.ev t (by omega)) ?_
  by_cases c : (decL (lst t)).2.2.2 = 0
  · refine evYes c ?_
    obtain ⟨o, e⟩ := hb.1 c
    have m := (may_iff _ _ _).2 o
    simp only [may_f, Option.bind_some]
    refine evYes m ?_
    refine Ev.bind (Encode.ev _ _ _) ?_
    refine evYes ?_ (back1 a ps gs cut)
    rw [toList_lst, toList_lst, lst_arr]
    unfold encL'
    rw [if_pos m, e]
  · refine evNo c ?_
    obtain ⟨h1, h2, h3⟩ := hb.2 c
    rw [h1, h2, h3]
    refine Ev.bind (Same.ev 0 0 [] [] [] [] (by simp) (by simp)) ?_
    simp only [and_self, decide_true, Bool.not_true]
    exact back1 a ps gs cut
end Go.Proofs.Ythfdhoegboeaeaa.Pure
