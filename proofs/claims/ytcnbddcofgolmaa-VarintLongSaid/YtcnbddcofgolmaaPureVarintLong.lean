/- Nine bytes or more of 128 and above are too long for varint, wherever they stand; fewer at the end are too short. For every input. -/
import Derived.Test.YtcnbddcofgolmaaPVarintLongx2
import Derived.Test.YtcnbddcofgolmaaVintPVarintLong
namespace Go.Proofs.Ytcnbddcofgolmaa.Pure
open Go Go.RowKit Go.Proofs.Ytcnbddcofgolmaa.PVarintLong Go.Proofs.YtcnbddcofgolmaaW.PrintWords Go.Proofs.YtcnbddcofgolmaaW.PrintLast ShCore

theorem fixed_ev : Ev (fun k => shuttlecocklaw01_fixed.f k) true := Ev.of shuttlecocklaw01_fixed.mono (k := 30) (by decide +kernel)
theorem long0 (n b : Int) (s : ByteArray) : Ev (fun k => shuttlecocklaw01_VarintLong.j0 k n b s true) true := by
  refine Ev.step (fun k => shuttlecocklaw01_VarintLong.j0.eq_2 ..) ?_
  simp only [↓reduceIte]
  exact Ev.bind fixed_ev (Ev.now _)
theorem long1 (n : Nat) (hn : n ≤ 30) (c : UInt8) (h128 : 128 ≤ c.toNat) (s : ByteArray) (hs : s.size ≤ 1000) (d : Nat) : ∀ i, i + d = n →
    Ev (fun k => shuttlecocklaw01_VarintLong.l0 k n (c.toNat : Int) s (arr (lst s ++ List.replicate i c)) (i : Int)) true := by
  have hc8 := u8_lt c
  have hlen := lst_length s
  induction d with
  | zero =>
    intro i hi
    obtain rfl : i = n := by omega
    refine Ev.step (fun k => shuttlecocklaw01_VarintLong.l0.eq_2 ..) ?_
    refine evNo (by omega) ?_
    have t1 := varint_Take.ev (arr (lst s ++ List.replicate i c)) (s.size : Int) (by rw [size_arr]; simp; omega)
    have e1 : takeL (lst (arr (lst s ++ List.replicate i c))) (s.size : Int) = (0, 0, if i < 9 then 10 else 11) := by
      have h1 := tkh_more (List.replicate i c) (.inl (by rw [lead_replicate c h128]; simp))
      rw [lst_arr]
      unfold takeL
      rw [if_neg (by simp; omega), Int.toNat_natCast, show s.size = (lst s).length from hlen.symm, List.drop_left, h1, List.length_replicate]
      by_cases h9 : i < 9
      · rw [if_pos h9, if_pos h9]; rfl
      · rw [if_neg h9, if_neg h9]; rfl
    rw [e1] at t1
    refine Ev.bind t1 ?_
    by_cases h9 : i < 9
    · simp only [if_pos h9]
      exact evYes (by omega) (Ev.now _)
    · simp only [if_neg h9]
      exact evNo (by omega) (Ev.now _)
  | succ d ih =>
    intro i hi
    have h2 := ih (i + 1) (by omega)
    have a4 : (i : Int) + 1 = ((i + 1 : Nat) : Int) ∧ (i : Int) + 1 < 9223372036854775808 := by omega
    have e1 : (c.toNat : Int) % 256 = (c.toNat : Int) := by omega
    have e2 : strOfNums [(c.toNat : Int)] = arr [c] := strOfNums_bytes [c]
    refine Ev.step (fun k => shuttlecocklaw01_VarintLong.l0.eq_2 ..) ?_
    refine evYes (by omega) ?_
    simp only [Option.bind_some, e1, e2, size_arr, arr_append, wrap64_nat' a4.1 a4.2]
    refine evYes (by simp; omega) ?_
    rw [List.append_assoc, show [c] = List.replicate 1 c from rfl, List.replicate_append_replicate]
    exact h2
theorem VarintLong : shuttlecocklaw01_VarintLong.Pure := by
  intro n b s _ _ hs
  refine Ev.rounds (g := fun k => shuttlecocklaw01_VarintLong.f k n b s) ?_
  unfold shuttlecocklaw01_VarintLong.f
  refine Ev.bind fixed_ev ?_
  simp only [↓reduceIte]
  by_cases h0 : n < 0
  · exact evYes h0 (long0 n b s)
  · refine evNo h0 ?_
    by_cases h1 : n > 30
    · exact evYes h1 (long0 n b s)
    · refine evNo h1 ?_
      by_cases h2 : b < 128
      · exact evYes h2 (long0 n b s)
      · refine evNo h2 ?_
        by_cases h3 : b > 255
        · exact evYes h3 (long0 n b s)
        · refine evNo h3 ?_
          by_cases h4 : (s.size : Int) > 1000
          · rw [decide_eq_true h4]; exact long0 n b s
          · rw [decide_eq_false h4]
            refine Ev.step (fun k => shuttlecocklaw01_VarintLong.j0.eq_2 ..) ?_
            simp only [Bool.false_eq_true, ↓reduceIte]
            obtain ⟨m, rfl⟩ := Int.eq_ofNat_of_zero_le (show 0 ≤ n by omega)
            obtain ⟨b, rfl⟩ := Int.eq_ofNat_of_zero_le (show 0 ≤ b by omega)
            have e := u8_ofNat b (by omega)
            have := long1 m (by omega) (UInt8.ofNat b) (by omega) s (by omega) m 0 (by omega)
            rw [e] at this
            simp only [List.replicate_zero, List.append_nil, arr_lst] at this
            exact this
end Go.Proofs.Ytcnbddcofgolmaa.Pure
