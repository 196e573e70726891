/- A number's bytes, cut off ahead of their end, are too short for varint; a larger number has no fewer bytes, nine at most. For every input. -/
import Derived.Test.YtcnbddcofgolmaaPVarintCutx2
import Derived.Test.YtcnbddcofgolmaaVintPVarintCut
namespace Go.Proofs.Ytcnbddcofgolmaa.Pure
open Go Go.RowKit Go.Proofs.Ytcnbddcofgolmaa.PVarintCut Go.Proofs.YtcnbddcofgolmaaW.PrintWords Go.Proofs.YtcnbddcofgolmaaW.PrintLast ShCore

theorem fixed_ev : Ev (fun k => shuttlecocklaw01_fixed.f k) true := Ev.of shuttlecocklaw01_fixed.mono (k := 30) (by decide +kernel)
theorem cut0 (n m c : Int) : Ev (fun k => shuttlecocklaw01_VarintCut.j0 k n m c true) true := by
  refine Ev.step (fun k => shuttlecocklaw01_VarintCut.j0.eq_2 ..) ?_
  simp only [↓reduceIte]
  exact Ev.bind fixed_ev (Ev.now _)
theorem cut1 (n m c : Int) (h0 : 0 ≤ n) (h1 : n ≤ m) (h2 : m < 4611686018427387904) : Ev (fun k => shuttlecocklaw01_VarintCut.j0 k n m c false) true := by
  obtain ⟨a, rfl⟩ := Int.eq_ofNat_of_zero_le h0
  obtain ⟨b, rfl⟩ := Int.eq_ofNat_of_zero_le (show 0 ≤ m by omega)
  have ea := put_nat a (by omega)
  have eb := put_nat b (by omega)
  have hl := putF_len 8 a
  have hm := putF_mono 8 a b (by omega)
  refine Ev.step (fun k => shuttlecocklaw01_VarintCut.j0.eq_2 ..) ?_
  simp only [Bool.false_eq_true, ↓reduceIte]
  refine Ev.bind (varint_Put.ev a) ?_
  simp only [size_arr, ea]
  refine evNo (by omega) (evNo (by omega) ?_)
  refine Ev.bind (varint_Len.ev a) ?_
  simp only [ea, ↓reduceIte]
  refine Ev.bind (varint_Len.ev b) ?_
  simp only [eb]
  rw [decide_eq_false (by omega)]
  refine Ev.step (fun k => shuttlecocklaw01_VarintCut.j1.eq_2 ..) ?_
  simp only [Bool.false_eq_true, ↓reduceIte, size_arr]
  by_cases h3 : c < 0
  · exact evYes h3 (Ev.now _)
  · refine evNo h3 ?_
    by_cases h4 : c ≥ ((putF 8 a).length : Int)
    · exact evYes h4 (Ev.now _)
    · refine evNo h4 (evYes (by omega) (evYes (by omega) ?_))
      obtain ⟨d, rfl⟩ := Int.eq_ofNat_of_zero_le (show 0 ≤ c by omega)
      have e1 : lst ((arr (putF 8 a)).extract 0 d) = (putF 8 a).take d := by rw [lst_extract, lst_arr]; simp
      have t1 := varint_Take.ev ((arr (putF 8 a)).extract 0 d) 0 (by rw [← lst_length, e1, List.length_take]; omega)
      have e2 : takeL ((putF 8 a).take d) 0 = (0, 0, 10) := by
        unfold takeL
        rw [if_neg (by omega)]
        simp [tkh_cut a d (by omega)]
      rw [e1, e2] at t1
      rw [Int.toNat_natCast]
      refine Ev.bind t1 ?_
      exact Ev.now _
theorem VarintCut : shuttlecocklaw01_VarintCut.Pure := by
  intro n m c _ _ _
  refine Ev.rounds (g := fun k => shuttlecocklaw01_VarintCut.f k n m c) ?_
  unfold shuttlecocklaw01_VarintCut.f
  refine Ev.bind fixed_ev ?_
  simp only [↓reduceIte]
  by_cases h0 : n < 0
  · exact evYes h0 (cut0 n m c)
  · refine evNo h0 ?_
    by_cases h1 : m < n
    · exact evYes h1 (cut0 n m c)
    · refine evNo h1 ?_
      by_cases h2 : m ≥ 4611686018427387904
      · rw [decide_eq_true h2]; exact cut0 n m c
      · rw [decide_eq_false h2]; exact cut1 n m c (by omega) (by omega) (by omega)
end Go.Proofs.Ytcnbddcofgolmaa.Pure
