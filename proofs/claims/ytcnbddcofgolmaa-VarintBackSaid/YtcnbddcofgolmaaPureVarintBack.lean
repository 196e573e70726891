/- What varint puts is taken again, wherever it stands; what is taken was put there; no number's bytes begin with another one's. For every input. -/
import Derived.Test.YtcnbddcofgolmaaQx4
import Derived.Test.YtcnbddcofgolmaaQx1
import Derived.Test.YtcnbddcofgolmaaVintPQ
namespace Go.Proofs.Ytcnbddcofgolmaa.Pure
open Go Go.RowKit Go.Proofs.Ytcnbddcofgolmaa.Q Go.Proofs.YtcnbddcofgolmaaW.PrintWords Go.Proofs.YtcnbddcofgolmaaW.PrintLast Go.Proofs.YtcnbddcofgolmaaW.PrintMore ShCore

theorem fixed_ev : Ev (fun k => shuttlecocklaw01_fixed.f k) true := Ev.of shuttlecocklaw01_fixed.mono (k := 30) (by decide +kernel)
theorem back2 (n m : Int) (s : ByteArray) (hs : s.size ≤ 10000) (ht : put n ≠ []) (hu : put m ≠ []) : Ev (fun k => shuttlecocklaw01_VarintBack.j2 k n m s (arr (put n)) (arr (put m)) false) true := by
  have hln := put_len n
  have hlm := put_len m
  refine Ev.step (fun k => shuttlecocklaw01_VarintBack.j2.eq_2 ..) ?_
  simp only [Bool.false_eq_true, ↓reduceIte]
  have hc := lst_length s
  have e1 : lst ((s ++ arr (put n)) ++ arr (put m)) = lst s ++ put n ++ put m := by simp only [lst_append, lst_arr]
  have z1 : (s ++ arr (put n)).size = s.size + (put n).length := by rw [← lst_length, lst_append, lst_arr, List.length_append, hc]
  have z2 : ((s ++ arr (put n)) ++ arr (put m)).size = s.size + (put n).length + (put m).length := by rw [← lst_length, e1, List.length_append, List.length_append, hc]
  simp only [size_arr, z1]
  have q1 : s.size + (put n).length ≤ 9223372036854775807 := by omega
  have q2 : s.size + (put n).length + (put m).length ≤ 9223372036854775807 := by omega
  simp only [if_pos q1, if_pos q2]
  have t1 := varint_Take.ev ((s ++ arr (put n)) ++ arr (put m)) (s.size : Int) (by rw [z2]; omega)
  have t2 := varint_Take.ev ((s ++ arr (put n)) ++ arr (put m)) ((s.size : Int) + ((put n).length : Int)) (by rw [z2]; omega)
  rw [e1] at t1 t2
  have k1 := takeL_put ht (lst s) (put m)
  have k2 := takeL_put hu (lst s ++ put n) []
  rw [hc] at k1
  rw [List.append_nil, List.length_append, hc, Int.natCast_add] at k2
  rw [k1] at t1
  rw [k2] at t2
  refine Ev.bind t1 ?_
  simp only
  refine Ev.bind t2 ?_
  have w1 : wrap64 ((s.size : Int) + ((put n).length : Int)) = (s.size : Int) + ((put n).length : Int) := wrap64_of (by omega) (by omega)
  have w2 : wrap64 (((s.size : Int) + ((put n).length : Int)) + ((put m).length : Int)) = ((s.size : Int) + ((put n).length : Int)) + ((put m).length : Int) := wrap64_of (by omega) (by omega)
  simp only [w1, w2, ↓reduceIte]
  by_cases hle : ((put n).length : Int) ≤ ((put m).length : Int)
  · refine evYes hle (evYes (by omega) ?_)
    have e3 : ((arr (put m)).extract 0 (put n).length).toList = (put m).take (put n).length := by rw [toList_lst, lst_extract, lst_arr]; simp
    simp only [Int.toNat_natCast, e3, toList_lst, lst_arr]
    by_cases hnm : n = m
    · subst hnm
      simp only [List.take_length, BEq.rfl]
      exact Ev.now _
    · have h1 : ((put m).take (put n).length == put n) = false := by
        rw [beq_eq_false_iff_ne]
        exact fun e => hnm (put_prefix ht hu e)
      have h2 : (n == m) = false := by rw [beq_eq_false_iff_ne]; exact hnm
      rw [h1, h2]
      exact Ev.now _
  · refine evNo hle ?_
    have h2 : (n == m) = false := by
      rw [beq_eq_false_iff_ne]
      rintro rfl
      exact hle (Int.le_refl _)
    rw [h2]
    exact Ev.now _
theorem back1 (n m : Int) (s : ByteArray) (hs : s.size ≤ 10000) : Ev (fun k => shuttlecocklaw01_VarintBack.j1 k n m s false) true := by
  refine Ev.step (fun k => shuttlecocklaw01_VarintBack.j1.eq_2 ..) ?_
  simp only [Bool.false_eq_true, ↓reduceIte]
  refine Ev.bind (varint_Put.ev n) ?_
  refine Ev.bind (varint_Put.ev m) ?_
  simp only [toList_lst, lst_arr]
  by_cases ht : put n = []
  · refine evYes ht ?_
    refine Ev.step (fun k => shuttlecocklaw01_VarintBack.j2.eq_2 ..) ?_
    have hn := put_nil ht
    simp only [↓reduceIte, toList_lst, lst_arr]
    have hm : (m < 0 ∨ m ≥ 4611686018427387904) ∨ (put m != []) = true := by
      by_cases hu : put m = []
      · exact .inl (put_nil hu)
      · exact .inr (by simpa using hu)
    by_cases h0 : n < 0
    · refine evYes h0 ?_
      by_cases h1 : m < 0
      · exact evYes h1 (Ev.now _)
      · refine evNo h1 ?_
        by_cases h2 : m ≥ 4611686018427387904
        · exact evYes h2 (Ev.now _)
        · refine evNo h2 ?_
          rcases hm with hm | hm
          · omega
          · rw [hm]; exact Ev.now _
    · refine evNo h0 (evYes (by omega) ?_)
      by_cases h1 : m < 0
      · exact evYes h1 (Ev.now _)
      · refine evNo h1 ?_
        by_cases h2 : m ≥ 4611686018427387904
        · exact evYes h2 (Ev.now _)
        · refine evNo h2 ?_
          rcases hm with hm | hm
          · omega
          · rw [hm]; exact Ev.now _
  · refine evNo ht ?_
    by_cases hu : put m = []
    · rw [hu, BEq.rfl]
      refine Ev.step (fun k => shuttlecocklaw01_VarintBack.j2.eq_2 ..) ?_
      have hm := put_nil hu
      simp only [↓reduceIte, toList_lst, lst_arr, if_neg ht]
      by_cases h0 : n < 0
      · refine evYes h0 ?_
        by_cases h1 : m < 0
        · exact evYes h1 (Ev.now _)
        · exact evNo h1 (evYes (by omega) (Ev.now _))
      · refine evNo h0 ?_
        by_cases h3 : n ≥ 4611686018427387904
        · refine evYes h3 ?_
          by_cases h1 : m < 0
          · exact evYes h1 (Ev.now _)
          · exact evNo h1 (evYes (by omega) (Ev.now _))
        · refine evNo h3 ?_
          by_cases h1 : m < 0
          · exact evYes h1 (Ev.now _)
          · exact evNo h1 (evYes (by omega) (Ev.now _))
    · have e : (put m == []) = false := by rw [beq_eq_false_iff_ne]; exact hu
      rw [e]
      exact back2 n m s hs ht hu
theorem VarintBack : shuttlecocklaw01_VarintBack.Pure := by
  intro n m s _ _ hs
  refine Ev.rounds (g := fun k => shuttlecocklaw01_VarintBack.f k n m s) ?_
  unfold shuttlecocklaw01_VarintBack.f
  refine Ev.bind fixed_ev ?_
  simp only [↓reduceIte]
  by_cases h : (s.size : Int) > 10000
  · rw [decide_eq_true h]
    refine Ev.step (fun k => shuttlecocklaw01_VarintBack.j0.eq_2 ..) ?_
    simp only [↓reduceIte]
    exact Ev.bind fixed_ev (Ev.now _)
  · rw [decide_eq_false h]
    refine Ev.step (fun k => shuttlecocklaw01_VarintBack.j0.eq_2 ..) ?_
    simp only [Bool.false_eq_true, ↓reduceIte]
    refine Ev.bind (varint_Take.ev s 0 (by omega)) ?_
    have hc := lst_length s
    by_cases h1 : (takeL (lst s) 0).2.2 = 0
    · obtain ⟨_, u, e1, u1, u9, ul, e2⟩ := takeL_back (lst s) 0 h1
      generalize takeL (lst s) 0 = r at *
      simp only [if_pos h1]
      refine evNo (by omega) (evNo (by omega) ?_)
      refine Ev.bind (varint_Put.ev r.1) ?_
      have e3 : (s.extract 0 (r.2.1).toNat).toList = put r.1 := by
        rw [toList_lst, lst_extract, e2, e1]
        simp
      simp only [e3, toList_lst, lst_arr]
      refine evYes (by omega) (evYes (by omega) ?_)
      have e4 : (put r.1 != put r.1) = false := by simp
      rw [e4]
      exact back1 n m s (by omega)
    · simp only [if_neg h1]
      exact back1 n m s (by omega)
end Go.Proofs.Ytcnbddcofgolmaa.Pure
