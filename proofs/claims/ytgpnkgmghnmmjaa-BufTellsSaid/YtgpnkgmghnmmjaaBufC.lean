/- What the document's buffer functions come to. For every input within the machine's sizes. -/
import Derived.Test.YtgpnkgmghnmmjaaQx11
import Derived.Test.YtgpnkgmghnmmjaaQx12
import Derived.Test.YtgpnkgmghnmmjaaEv
import Derived.Test.YtgpnkgmghnmmjaaBatN
import Derived.Test.YtgpnkgmghnmmjaaEvR
set_option linter.unusedVariables false
set_option linter.unusedSimpArgs false
namespace Go.Proofs.Ytgpnkgmghnmmjaa.BufC
open Go Go.RowKit Go.Proofs.Ytgpnkgmghnmmjaa.Q Go.Proofs.YtgpnkgmghnmmjaaW.PrintWords Go.Proofs.YtgpnkgmghnmmjaaW.PrintLast Go.Proofs.YtgpnkgmghnmmjaaW.PrintMore ShCore EvA EvB EvC EvQ EvR BatA BatM BatN BufA BufB
theorem rput1 {a : Int} (d : Int) (xs : List Int) (ha : xs.length ≤ 1000) (x : ByteArray) (hx : x.size ≤ 1000000) (s : ByteArray) (hs : s.size ≤ 1000000000000000) (t m b l : Int) :
    Ev (fun k => shuttlecockref19_Put.j1 k t m b l s a d xs x) (if mayE a (wrap64 (t - l)) xs x = true then (m, b, t, s ++ arr (encE ⟨a, wrap64 (t - l), xs, x⟩), true) else noBuf) := by
  refine Ev.step (fun k => shuttlecockref19_Put.j1.eq_2 ..) (Ev.bind (rMay a (wrap64 (t - l)) xs x (by omega)) ?_)
  cases hm : mayE a (wrap64 (t - l)) xs x with
  | false =>
    simp only [Bool.false_eq_true, if_false]
    exact Ev.now _
  | true =>
    have h9 := enc_lenM (e := ⟨a, wrap64 (t - l), xs, x⟩) hm
    simp only at h9
    refine evYes rfl (Ev.bind (rEncode ⟨a, wrap64 (t - l), xs, x⟩ (by simp only; omega) (by simp only; omega)) ?_)
    simp only [if_true]
    exact evYes (by rw [size_arr]; omega) (Ev.now _)
theorem rputEv {a : Int} (d : Int) (xs : List Int) (ha : xs.length ≤ 1000) (x : ByteArray) (hx : x.size ≤ 1000000) (s : ByteArray) (hs : s.size ≤ 1000000000000000) (t m b l : Int) :
    Ev (fun k => shuttlecockref19_Put.f k m b l s t a d xs x) (putB m b l s t a xs x) := by
  unfold shuttlecockref19_Put.f putB
  have hl := lst_length s
  refine Ev.bind (evC (rfits_f t)) ?_
  by_cases c0 : fitsE t = true
  · rw [if_pos c0]
    refine evYes c0 ?_
    by_cases c2 : lst s = []
    · rw [if_pos c2]
      have hz : s.size = 0 := by rw [← hl, c2]; rfl
      refine evNo (by omega) (Ev.step (fun k => shuttlecockref19_Put.j0.eq_2 ..) (evNo (by simp) (evYes (by omega) ?_)))
      have h := rput1 (a := a) d xs ha x hx s hs t m t t
      rw [wrap_sub_self, empty_append c2] at h
      exact h
    · rw [if_neg c2]
      have hz : s.size ≠ 0 := by
        intro e
        rw [← hl] at e
        exact c2 (List.eq_nil_of_length_eq_zero e)
      refine evYes (by omega) ?_
      by_cases c3 : t < l
      · rw [decide_eq_true c3, if_pos c3]
        exact Ev.step (fun k => shuttlecockref19_Put.j0.eq_2 ..) (evYes rfl (Ev.now _))
      · rw [decide_eq_false c3, if_neg c3]
        refine Ev.step (fun k => shuttlecockref19_Put.j0.eq_2 ..) (evNo (by simp) (evNo (by omega) ?_))
        exact rput1 d xs ha x hx s hs t m b l
  · rw [if_neg c0]
    exact evNo c0 (Ev.step (fun k => shuttlecockref19_Put.j0.eq_2 ..) (evYes rfl (Ev.now _)))
theorem rsealEv (m b l : Int) (s : ByteArray) (g : Int) : Ev (fun k => shuttlecockref19_Seal.f k m b l s g) (sealB m b l s g) := by
  unfold shuttlecockref19_Seal.f sealB
  have hl := lst_length s
  by_cases c2 : m < 1
  · rw [if_neg (by omega)]
    exact evYes c2 (Ev.step (fun k => shuttlecockref19_Seal.j0.eq_2 ..) (evYes rfl (Ev.now _)))
  refine evNo c2 ?_
  by_cases c1 : lst s = []
  · have hz : s.size = 0 := by rw [← hl, c1]; rfl
    rw [if_neg (fun h => h.2.1 c1), show ((s.size : Int) == 0) = true by simp [hz]]
    exact Ev.step (fun k => shuttlecockref19_Seal.j0.eq_2 ..) (evYes rfl (Ev.now _))
  · have hz : s.size ≠ 0 := by
      intro e
      rw [← hl] at e
      exact c1 (List.eq_nil_of_length_eq_zero e)
    rw [show ((s.size : Int) == 0) = false from beq_eq_false_iff_ne.2 (by omega)]
    refine Ev.step (fun k => shuttlecockref19_Seal.j0.eq_2 ..) (evNo (by simp) (Ev.bind (evC (rbmay_f ..)) ?_))
    by_cases c3 : mayBt g (wrap64 (m + 1)) b s.size = true
    · refine evYes c3 ?_
      rw [if_pos ⟨by omega, c1, c3⟩]
      exact Ev.now _
    · refine evNo c3 ?_
      rw [if_neg (fun h => c3 h.2.2)]
      exact Ev.now _
end Go.Proofs.Ytgpnkgmghnmmjaa.BufC
