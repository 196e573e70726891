/- The document's texts and numbers, one behind the other, by plain lists of bytes. For every input within the machine's sizes. -/
import Derived.Test.YtfcombimnmkoeaaQx8
import Derived.Test.YtfcombimnmkoeaaVintRQ
import Derived.Test.YtfcombimnmkoeaaEv
namespace Go.Proofs.Ytfcombimnmkoeaa.Q
open Go Go.RowKit Go.Proofs.YtfcombimnmkoeaaW.PrintWords Go.Proofs.YtfcombimnmkoeaaW.PrintLast Go.Proofs.YtfcombimnmkoeaaW.PrintMore ShCore
theorem rNums0 (l : List Int) (hl : l.length ≤ 1000000000000) (d : Nat) : ∀ (i : Nat) (acc : List UInt8), i + d = l.length → acc.length ≤ 9 * i →
    Ev (fun k => shuttlecockref02_Nums.l0 k l (arr acc) (i : Int)) (arr (((numsO (l.drop i)).map (acc ++ ·)).getD [])) := by
  induction d with
  | zero =>
    intro i acc hi ha
    refine Ev.step (fun k => shuttlecockref02_Nums.l0.eq_2 ..) ?_
    refine evNo (by omega) ?_
    rw [List.drop_eq_nil_of_le (by omega)]
    simp [numsO]
    exact Ev.now _
  | succ d ih =>
    intro i acc hi ha
    refine Ev.step (fun k => shuttlecockref02_Nums.l0.eq_2 ..) ?_
    refine evYes (by omega) (evYes (by omega) ?_)
    refine Ev.bind (shuttlecockref01_Put.ev _) ?_
    rw [rd_drop (show i < l.length by omega)]
    simp only [toList_lst, lst_arr, numsO]
    by_cases c : put (rd l i) = []
    · simp only [if_pos c]
      exact Ev.now _
    · simp only [if_neg c]
      have hp := put_len (rd l i)
      refine Ev.bind (shuttlecockref01_Put.ev _) ?_
      refine evYes (by rw [size_arr, size_arr]; omega) ?_
      have a4 : (i : Int) + 1 = ((i + 1 : Nat) : Int) ∧ (i : Int) + 1 < 9223372036854775808 := by omega
      simp only [arr_append, wrap64_nat' a4.1 a4.2]
      have h2 := ih (i + 1) (acc ++ put (rd l i)) (by omega) (by rw [List.length_append]; omega)
      have e : ((numsO (l.drop (i + 1))).map (put (rd l i) ++ ·)).map (acc ++ ·) = (numsO (l.drop (i + 1))).map ((acc ++ put (rd l i)) ++ ·) := by
        rw [Option.map_map]
        congr 1
        funext x
        simp
      rw [e]
      exact h2
theorem rNums (l : List Int) (hl : l.length ≤ 1000000000000) : Ev (fun k => shuttlecockref02_Nums.f k l) (arr (numsL l)) := by
  have h := rNums0 l hl l.length 0 [] (by omega) (by simp)
  have e : ((numsO (l.drop 0)).map (([] : List UInt8) ++ ·)).getD [] = numsL l := by
    unfold numsL
    cases h : numsO l <;> simp [h]
  rw [e] at h
  exact h
theorem rText (s : ByteArray) (hs : s.size < 4611686018427387904) : Ev (fun k => shuttlecockref02_Text.f k s) (arr (text (lst s))) := by
  unfold shuttlecockref02_Text.f
  have h9 := put_len (s.size : Int)
  refine Ev.bind (shuttlecockref01_Put.ev (s.size : Int)) ?_
  refine evYes (by rw [size_arr]; omega) (evC ?_)
  apply congrArg some
  apply lst_inj
  rw [lst_append, lst_arr, lst_arr]
  unfold text
  rw [lst_length]
end Go.Proofs.Ytfcombimnmkoeaa.Q
