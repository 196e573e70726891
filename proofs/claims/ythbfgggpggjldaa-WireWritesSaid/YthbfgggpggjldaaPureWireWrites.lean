/- The bytes of any text and of any numbers, and whether any text begins with the header, are told by wire as the document says. For every input. -/
import Derived.Test.YthbfgggpggjldaaQx5
import Derived.Test.YthbfgggpggjldaaQx4
import Derived.Test.YthbfgggpggjldaaWireP
import Derived.Test.YthbfgggpggjldaaVintRQ
namespace Go.Proofs.Ythbfgggpggjldaa.Pure
open Go Go.RowKit Go.Proofs.Ythbfgggpggjldaa.Q Go.Proofs.YthbfgggpggjldaaW.PrintWords Go.Proofs.YthbfgggpggjldaaW.PrintLast Go.Proofs.YthbfgggpggjldaaW.PrintMore ShCore

theorem rText (s : ByteArray) (hs : s.size < 4611686018427387904) : Ev (fun k => shuttlecockref02_Text.f k s) (arr (text (lst s))) := by
  unfold shuttlecockref02_Text.f
  refine Ev.bind (shuttlecockref01_Put.ev (s.size : Int)) ?_
  have h1 := put_len (s.size : Int)
  refine evYes (by rw [size_arr]; omega) ?_
  have e : arr (put (s.size : Int)) ++ s = arr (text (lst s)) := by
    apply lst_inj
    rw [lst_append, lst_arr, lst_arr]
    unfold text
    rw [lst_length]
  rw [e]
  exact Ev.now _
theorem rNums0 (l : List Int) (hl : l.length ≤ 1000000000000) (d : Nat) : ∀ (i : Nat) (acc : List UInt8), i + d = l.length → acc.length ≤ 9 * i →
    Ev (fun k => shuttlecockref02_Nums.l0 k l (arr acc) (i : Int)) (arr (((numsO (l.drop i)).map (acc ++ ·)).getD [])) := by
  induction d with
  | zero =>
    intro i acc hi ha
    refine Ev.step (fun k => shuttlecockref02_Nums.l0.eq_2 ..) ?_
    refine evNo (by omega) ?_
    rw [List.drop_eq_nil_of_le (by omega)]
    simp [numsO]
    exact Ev.now _
  | succ d ih =>
    intro i acc hi ha
    refine Ev.step (fun k => shuttlecockref02_Nums.l0.eq_2 ..) ?_
    refine evYes (by omega) (evYes (by omega) ?_)
    refine Ev.bind (shuttlecockref01_Put.ev _) ?_
    rw [rd_drop (show i < l.length by omega)]
    simp only [toList_lst, lst_arr, numsO]
    by_cases c : put (rd l i) = []
    · simp only [if_pos c]
      exact Ev.now _
    · simp only [if_neg c]
      have hp := put_len (rd l i)
      refine Ev.bind (shuttlecockref01_Put.ev _) ?_
      refine evYes (by rw [size_arr, size_arr]; omega) ?_
      have a4 : (i : Int) + 1 = ((i + 1 : Nat) : Int) ∧ (i : Int) + 1 < 9223372036854775808 := by omega
      simp only [arr_append, wrap64_nat' a4.1 a4.2]
      have h2 := ih (i + 1) (acc ++ put (rd l i)) (by omega) (by rw [List.length_append]; omega)
      have e : ((numsO (l.drop (i + 1))).map (put (rd l i) ++ ·)).map (acc ++ ·) = (numsO (l.drop (i + 1))).map ((acc ++ put (rd l i)) ++ ·) := by
        rw [Option.map_map]
        congr 1
        funext x
        simp
      rw [e]
      exact h2
theorem rNums (l : List Int) (hl : l.length ≤ 1000000000000) : Ev (fun k => shuttlecockref02_Nums.f k l) (arr (numsL l)) := by
  have h := rNums0 l hl l.length 0 [] (by omega) (by simp)
  have e : ((numsO (l.drop 0)).map (([] : List UInt8) ++ ·)).getD [] = numsL l := by
    unfold numsL
    cases h : numsO l <;> simp [h]
  rw [e] at h
  exact h
theorem header_len : header.length = 5 := rfl
theorem rHead (s : ByteArray) (hs : s.size < 4611686018427387904) : shuttlecockref02_Head.f s = some (headL (lst s)) := by
  have hl := lst_length s
  unfold shuttlecockref02_Head.f shuttlecockref02_Header.f headL
  simp only [Option.bind_some]
  have e : lst (⟨#[83, 72, 84, 76, 1]⟩ : ByteArray) = header := rfl
  have z : ((⟨#[83, 72, 84, 76, 1]⟩ : ByteArray).size : Int) = 5 := rfl
  have m : mn (s.size : Int) 5 = ((min s.size 5 : Nat) : Int) := by unfold mn; split <;> omega
  rw [m, z]
  rw [if_pos (by omega), if_pos (by omega), if_pos (by omega)]
  simp only [toList_lst, lst_extract, e, Int.toNat_natCast, List.drop_zero, Nat.sub_zero]
  have key : ((lst s).take (min s.size 5) = header.take (min s.size 5)) ↔ (header <+: lst s ∨ lst s <+: header) := by
    rw [List.prefix_iff_eq_take, List.prefix_iff_eq_take, hl, header_len]
    rcases Nat.le_total 5 s.size with h5 | h5
    · rw [Nat.min_eq_right h5, List.take_of_length_le (l := header) (by rw [header_len]; omega)]
      constructor
      · intro h; exact .inl h.symm
      · rintro (h | h)
        · exact h.symm
        · have h6 : s.size = 5 := by
            have := congrArg List.length h
            rw [List.length_take, hl, header_len] at this
            omega
          rw [h6, List.take_of_length_le (l := header) (by rw [header_len]; omega)] at h
          rw [List.take_of_length_le (by omega)]
          exact h
    · rw [Nat.min_eq_left h5, List.take_of_length_le (l := lst s) (by omega)]
      constructor
      · intro h; exact .inr h
      · rintro (h | h)
        · have h6 : s.size = 5 := by
            have := congrArg List.length h
            rw [List.length_take, hl, header_len] at this
            omega
          rw [List.take_of_length_le (l := lst s) (by omega)] at h
          rw [h6, List.take_of_length_le (l := header) (by rw [header_len]; omega)]
          exact h.symm
        · exact h
  by_cases c1 : header <+: lst s
  · have h5 := c1.length_le
    rw [header_len] at h5
    rw [if_pos (key.2 (.inl c1)), if_neg (by omega), if_pos c1]
  · rw [if_neg c1]
    by_cases c2 : lst s <+: header
    · have h5 := c2.length_le
      rw [header_len] at h5
      have h6 : s.size ≠ 5 := by
        intro h6
        apply c1
        rw [List.prefix_iff_eq_take, hl, h6, List.take_of_length_le (l := header) (by rw [header_len]; omega)] at c2
        rw [c2]
        exact List.prefix_rfl
      rw [if_pos (key.2 (.inr c2)), if_pos (by omega), if_pos c2]
    · rw [if_neg c2, if_neg]
      intro h
      rcases key.1 h with h | h
      · exact c1 h
      · exact c2 h
theorem writes1 (s : ByteArray) (l : List Int) (hs : s.size ≤ 5000) (hl : l.length ≤ 200) : Ev (fun k => shuttlecocklaw02_WireWrites.j0 k s l false) true := by
  refine Ev.step (fun k => shuttlecocklaw02_WireWrites.j0.eq_2 ..) ?_
  simp only [Bool.false_eq_true, ↓reduceIte, wire_Head.eq, rHead s (by omega), shuttlecocklaw02_fixed.f, Option.bind_some]
  refine Ev.bind (wire_Text.ev s (by omega)) ?_
  refine Ev.bind (rText s (by omega)) ?_
  simp only [↓reduceIte]
  refine Ev.bind (wire_Nums.ev l (by omega)) ?_
  refine Ev.bind (rNums l (by omega)) ?_
  simp only [↓reduceIte, wire_Header.f, shuttlecockref02_Header.f, Option.bind_some, BEq.rfl]
  exact Ev.now _
theorem WireWrites : shuttlecocklaw02_WireWrites.Pure := by
  intro s l _ _ _ _
  refine Ev.rounds (g := fun k => shuttlecocklaw02_WireWrites.f k s l) ?_
  have z : Ev (fun k => shuttlecocklaw02_WireWrites.j0 k s l true) true := by
    refine Ev.step (fun k => shuttlecocklaw02_WireWrites.j0.eq_2 ..) ?_
    simp only [↓reduceIte, shuttlecocklaw02_fixed.f, Option.bind_some]
    exact Ev.now _
  unfold shuttlecocklaw02_WireWrites.f
  by_cases c1 : (s.size : Int) > 5000
  · exact evYes c1 z
  · refine evNo c1 ?_
    by_cases c2 : (l.length : Int) > 200
    · simp only [decide_eq_true c2]; exact z
    · simp only [decide_eq_false c2]
      exact writes1 s l (by omega) (by omega)
end Go.Proofs.Ythbfgggpggjldaa.Pure
