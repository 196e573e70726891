/- A number has as many bytes as its seven-bit parts; each byte but the last one is 128 or more, the last one is not. For every number. -/
import Derived.Test.YtcnbddcofgolmaaPVarintLenx2
import Derived.Test.YtcnbddcofgolmaaVintPVarintLen
namespace Go.Proofs.Ytcnbddcofgolmaa.Pure
open Go Go.RowKit Go.Proofs.Ytcnbddcofgolmaa.PVarintLen Go.Proofs.YtcnbddcofgolmaaW.PrintWords Go.Proofs.YtcnbddcofgolmaaW.PrintLast ShCore

theorem fixed_ev : Ev (fun k => shuttlecocklaw01_fixed.f k) true := Ev.of shuttlecocklaw01_fixed.mono (k := 30) (by decide +kernel)
theorem len0 (n : Int) : Ev (fun k => shuttlecocklaw01_VarintLen.j0 k n true) true := by
  refine Ev.step (fun k => shuttlecocklaw01_VarintLen.j0.eq_2 ..) ?_
  simp only [↓reduceIte]
  exact Ev.bind fixed_ev (Ev.now _)
theorem len2 (n : Nat) (hn : n < 4611686018427387904) (d : Nat) : ∀ i, i + d = (putF 8 n).length → Ev (fun k => shuttlecocklaw01_VarintLen.l1 k n (arr (putF 8 n)) ((putF 8 n).length : Int) (i : Int)) true := by
  have hl := putF_len 8 n
  induction d with
  | zero =>
    intro i hi
    refine Ev.step (fun k => shuttlecocklaw01_VarintLen.l1.eq_2 ..) ?_
    simp only [size_arr]
    refine evNo (by omega) (evYes trivial ?_)
    refine Ev.bind (varint_Len.ev n) ?_
    rw [put_nat n hn]
    simp only [BEq.rfl]
    exact Ev.now _
  | succ d ih =>
    intro i hi
    have h2 := ih (i + 1) (by omega)
    have hlt : i < (putF 8 n).length := by omega
    have hc := putF_cont 8 n (by omega) i hlt
    obtain ⟨c, hd, hb⟩ := drop_bt (arr (putF 8 n)) i (by rw [size_arr]; exact hlt)
    rw [lst_arr, List.drop_eq_getElem_cons hlt] at hd
    injection hd with hd _
    subst hd
    have a4 : (i : Int) + 1 = ((i + 1 : Nat) : Int) ∧ (i : Int) + 1 < 9223372036854775808 := by omega
    refine Ev.step (fun k => shuttlecocklaw01_VarintLen.l1.eq_2 ..) ?_
    simp only [size_arr, hb, wrap64_nat' a4.1 a4.2]
    refine evYes (by omega) (evYes (by omega) (evNo ?_ ?_))
    rotate_left
    · exact h2
    · have : decide ((((putF 8 n)[i]).toNat : Int) ≥ 128) = decide (((i + 1 : Nat) : Int) < ((putF 8 n).length : Int)) := by
        rw [decide_eq_decide]
        omega
      rw [this]
      simp
/-- As many parts as are still to be counted. -/
def more (f n : Nat) : Nat := if n = 0 then 0 else (putF f n).length
theorem more_step (f n : Nat) : (putF (f + 1) n).length = 1 + more f (n / 128) := by
  unfold more
  simp only [putF]
  by_cases h : n < 128
  · rw [if_pos h, if_pos (by omega)]; simp
  · rw [if_neg h, if_neg (by omega), List.length_cons]; omega
theorem len1 (n : Nat) (hn : n < 4611686018427387904) (f : Nat) : ∀ (m j : Nat), m < 128 ^ f → m < 9223372036854775808 → j + more f m = (putF 8 n).length → Ev (fun k => shuttlecocklaw01_VarintLen.l0 k n (arr (putF 8 n)) (j : Int) (m : Int)) true := by
  have hl := putF_len 8 n
  induction f with
  | zero =>
    intro m j hm _ hj
    have h0 : m = 0 := by simpa using hm
    subst h0
    simp [more] at hj
    subst hj
    refine Ev.step (fun k => shuttlecocklaw01_VarintLen.l0.eq_2 ..) ?_
    refine evNo (by omega) ?_
    exact len2 n hn (putF 8 n).length 0 (by omega)
  | succ f ih =>
    intro m j hm hb hj
    by_cases h0 : m = 0
    · subst h0
      simp [more] at hj
      subst hj
      refine Ev.step (fun k => shuttlecocklaw01_VarintLen.l0.eq_2 ..) ?_
      refine evNo (by omega) ?_
      exact len2 n hn (putF 8 n).length 0 (by omega)
    · have h3 : m / 128 < 128 ^ f := by rw [Nat.pow_succ] at hm; exact Nat.div_lt_of_lt_mul (by rw [Nat.mul_comm]; exact hm)
      have e1 : more (f + 1) m = 1 + more f (m / 128) := by rw [← more_step]; unfold more; rw [if_neg h0]
      have h2 := ih (m / 128) (j + 1) h3 (by omega) (by omega)
      have a4 : (j : Int) + 1 = ((j + 1 : Nat) : Int) ∧ (j : Int) + 1 < 9223372036854775808 := by omega
      refine Ev.step (fun k => shuttlecocklaw01_VarintLen.l0.eq_2 ..) ?_
      refine evYes (by omega) ?_
      simp only [wrap64_nat' a4.1 a4.2, tdiv128, wrap64_div m hb]
      exact h2
theorem VarintLen : shuttlecocklaw01_VarintLen.Pure := by
  intro n _
  refine Ev.rounds (g := fun k => shuttlecocklaw01_VarintLen.f k n) ?_
  unfold shuttlecocklaw01_VarintLen.f
  refine Ev.bind fixed_ev ?_
  simp only [↓reduceIte]
  by_cases h0 : n < 0
  · exact evYes h0 (len0 n)
  · refine evNo h0 ?_
    by_cases h2 : n ≥ 4611686018427387904
    · rw [decide_eq_true h2]; exact len0 n
    · rw [decide_eq_false h2]
      obtain ⟨a, rfl⟩ := Int.eq_ofNat_of_zero_le (show 0 ≤ n by omega)
      refine Ev.step (fun k => shuttlecocklaw01_VarintLen.j0.eq_2 ..) ?_
      simp only [Bool.false_eq_true, ↓reduceIte]
      refine Ev.bind (varint_Put.ev a) ?_
      rw [put_nat a (by omega)]
      simp only [tdiv128, wrap64_div a (show a < 9223372036854775808 by omega)]
      have := len1 a (by omega) 8 (a / 128) 1 (by omega) (by omega) (by rw [← more_step 8 a]; exact putF_eight a (by omega))
      exact this
end Go.Proofs.Ytcnbddcofgolmaa.Pure
