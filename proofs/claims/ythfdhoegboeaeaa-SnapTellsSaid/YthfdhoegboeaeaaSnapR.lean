/- The document's snap comes to the same: what may be, the bytes, what is read. For every input within the machine's sizes. -/
import Derived.Test.YthfdhoegboeaeaaQx10
import Derived.Test.YthfdhoegboeaeaaQx13
import Derived.Test.YthfdhoegboeaeaaQx14
import Derived.Test.YthfdhoegboeaeaaWireNR
import Derived.Test.YthfdhoegboeaeaaSnapC
set_option linter.unusedVariables false
set_option linter.unusedSectionVars false
set_option linter.unusedSimpArgs false
namespace Go.Proofs.Ythfdhoegboeaeaa.SnapR
open Go Go.RowKit Go.Proofs.Ythfdhoegboeaeaa.Q Go.Proofs.YthfdhoegboeaeaaW.PrintWords Go.Proofs.YthfdhoegboeaeaaW.PrintLast Go.Proofs.YthfdhoegboeaeaaW.PrintMore ShCore SnapA SnapB SnapC

theorem fitB_iff (a : Int) : fitB a = true ↔ Fit a := by
  unfold fitB Fit
  simp only [Bool.and_eq_true, decide_eq_true_eq]
/-! ### counts -/
theorem count_le_one {α : Type} (p : α → Bool) : ∀ l : List α, l.countP p ≤ 1 ↔ l.Pairwise (fun a b => p a = true → p b = true → False)
  | [] => by simp
  | a :: l => by
    rw [List.countP_cons, List.pairwise_cons, ← count_le_one p l]
    cases e : p a with
    | false => simp
    | true =>
      simp only [forall_const]
      constructor
      · intro h
        have h0 : l.countP p = 0 := by simp at h; simpa using h
        rw [List.countP_eq_zero] at h0
        exact ⟨fun b hb h1 => absurd h1 (h0 b hb), by rw [List.countP_eq_zero.2 h0]; omega⟩
      · rintro ⟨h1, _⟩
        have h0 : l.countP p = 0 := List.countP_eq_zero.2 (fun b hb h2 => h1 b hb h2)
        simp [h0]
theorem count_pos {α : Type} (p : α → Bool) (l : List α) : 1 ≤ l.countP p ↔ ∃ a ∈ l, p a = true := List.countP_pos_iff
theorem holdN_le {l : List PS} (h : OkP l) {m : Int} (hm : 0 < m) : holdN l m ≤ 1 := by
  unfold holdN
  rw [count_le_one]
  refine h.2.imp fun {a b} hab h1 h2 => ?_
  simp only [decide_eq_true_eq] at h1 h2
  exact hab (by omega) (by omega)
theorem holdN_pos (l : List PS) {m : Int} (hm : 0 < m) : 1 ≤ holdN l m ↔ hasP l (.int .i64 m) = true := by
  unfold holdN
  rw [count_pos, hasP_iff]
  simp only [decide_eq_true_eq]
  constructor
  · rintro ⟨q, hq, h⟩; exact ⟨q, hq, by omega, h⟩
  · rintro ⟨q, hq, _, h⟩; exact ⟨q, hq, h⟩
theorem holdN_one {l : List PS} (h : OkP l) {m : Int} (hm : 0 < m) : holdN l m = 1 ↔ hasP l (.int .i64 m) = true := by
  rw [← holdN_pos l hm]
  have := holdN_le h hm
  omega
theorem holdN_zero {l : List PS} {m : Int} (hm : 0 < m) : holdN l m = 0 ↔ hasP l (.int .i64 m) = false := by
  have := holdN_pos l hm
  cases e : hasP l (.int .i64 m) with
  | true => rw [e] at this; simp at this ⊢; omega
  | false => rw [e] at this; simp at this ⊢; omega
theorem rPreP_at {l : List PS} : ∀ n, (rPreP l n = true ↔ ∀ i, i < n → rOkP l i = true)
  | 0 => by simp [rPreP]
  | n + 1 => by
    unfold rPreP
    rw [Bool.and_eq_true, rPreP_at n]
    constructor
    · rintro ⟨h1, h2⟩ i hi
      rcases Nat.lt_or_ge i n with h | h
      · exact h1 i h
      · obtain rfl : i = n := by omega
        exact h2
    · intro h
      exact ⟨fun i hi => h i (by omega), h n (by omega)⟩
theorem rOkP_iff {l : List PS} {i : Nat} (h : i < l.length) : rOkP l i = true ↔ FitP l[i] ∧ ((l[i]).f0 = 0 ∨ holdN l (l[i]).f0 = 1) := by
  unfold rOkP
  rw [rdP h]
  simp only [Bool.and_eq_true, fitB_iff, Bool.or_eq_true, decide_eq_true_eq]
  rfl
theorem rPreP_all (l : List PS) : rPreP l l.length = true ↔ OkP l := by
  rw [rPreP_at]
  constructor
  · intro h
    refine ⟨fun p hp => ?_, List.pairwise_iff_getElem.2 fun i j hi hj hij h0 he => ?_⟩
    · obtain ⟨i, hi, rfl⟩ := List.mem_iff_getElem.1 hp
      exact ((rOkP_iff hi).1 (h i hi)).1
    · have h1 := ((rOkP_iff hi).1 (h i hi)).2
      have h2 : holdN l (l[i]).f0 ≤ 1 := by omega
      unfold holdN at h2
      rw [count_le_one, List.pairwise_iff_getElem] at h2
      exact h2 i j hi hj hij (by simp) (by simp [he])
  · intro h i hi
    have hf := h.1 _ (List.getElem_mem hi)
    refine (rOkP_iff hi).2 ⟨hf, ?_⟩
    by_cases h0 : (l[i]).f0 = 0
    · exact .inl h0
    · have hp : 0 < (l[i]).f0 := by have := hf.1.1; omega
      refine .inr ((holdN_one h hp).2 ((hasP_iff _ _).2 ⟨_, List.getElem_mem hi, hp, rfl⟩))
theorem rPreG_at {ps : List PS} {l : List GS} : ∀ n, (rPreG ps l n = true ↔ ∀ i, i < n → rOkG ps l i = true)
  | 0 => by simp [rPreG]
  | n + 1 => by
    unfold rPreG
    rw [Bool.and_eq_true, rPreG_at n]
    constructor
    · rintro ⟨h1, h2⟩ i hi
      rcases Nat.lt_or_ge i n with h | h
      · exact h1 i h
      · obtain rfl : i = n := by omega
        exact h2
    · intro h
      exact ⟨fun i hi => h i (by omega), h n (by omega)⟩
theorem rightB_iff {ps : List PS} {l : List GS} (hp : OkP ps) (s : Int) {m : Int} (hm : 0 ≤ m) : rightB ps l s m = true ↔ StG ps s m ∧ (0 < m → hasN l m = 1) := by
  unfold rightB StG
  by_cases h1 : s = 1 ∨ s = 3
  · rw [if_pos h1]
    simp only [beq_iff_eq]
    constructor
    · intro h; exact ⟨.inl ⟨h1, h⟩, fun h0 => by omega⟩
    · rintro ⟨h | ⟨_, h | h⟩, _⟩
      · exact h.2
      · omega
      · omega
  · rw [if_neg h1]
    by_cases h2 : m = 0 ∨ hasN l m ≠ 1
    · rw [if_pos h2]
      constructor
      · intro h; cases h
      · rintro ⟨h | ⟨h0, _⟩, h3⟩
        · exact absurd h.1 h1
        · rcases h2 with h2 | h2
          · omega
          · exact absurd (h3 h0) h2
    · rw [if_neg h2]
      have h0 : 0 < m := by omega
      have hh : hasN l m = 1 := by omega
      simp only [Bool.or_eq_true, decide_eq_true_eq, holdN_one hp h0, holdN_zero h0]
      constructor
      · intro h; exact ⟨.inr ⟨h0, h⟩, fun _ => hh⟩
      · rintro ⟨h | ⟨_, h⟩, _⟩
        · omega
        · exact h
theorem rOkG_iff {ps : List PS} {l : List GS} (hp : OkP ps) {i : Nat} (h : i < l.length) : rOkG ps l i = true ↔ OneG ps l[i] ∧ (i = 0 ∨ (l[i - 1]'(by omega)).f0 < (l[i]).f0) ∧ (0 < (l[i]).f2 → hasN l (l[i]).f2 = 1) := by
  unfold rOkG OneG FitG
  rw [rdG h]
  have e : i ≠ 0 → rd_T36 l ((i : Int) - 1) = l[i - 1]'(by omega) := fun h0 => by
    rw [show (i : Int) - 1 = ((i - 1 : Nat) : Int) by omega, rdG (by omega)]
  simp only [Bool.and_eq_true, fitB_iff, Bool.or_eq_true, Bool.not_eq_true', decide_eq_false_iff_not, decide_eq_true_eq]
  constructor
  · rintro ⟨⟨⟨⟨⟨h1, h2⟩, h3⟩, h4⟩, h5⟩, h6⟩
    obtain ⟨h7, h8⟩ := (rightB_iff hp _ h2.1).1 h6
    refine ⟨⟨⟨h1, h2, h3⟩, by omega, h7⟩, ?_, h8⟩
    rcases h5 with h5 | h5
    · exact .inl h5
    · by_cases h0 : i = 0
      · exact .inl h0
      · rw [e h0] at h5; exact .inr (by omega)
  · rintro ⟨⟨⟨h1, h2, h3⟩, h4, h7⟩, h5, h8⟩
    refine ⟨⟨⟨⟨⟨h1, h2⟩, h3⟩, by omega⟩, ?_⟩, (rightB_iff hp _ h2.1).2 ⟨h7, h8⟩⟩
    rcases h5 with h5 | h5
    · exact .inl h5
    · by_cases h0 : i = 0
      · exact .inl h0
      · rw [e h0]; exact .inr (by omega)
theorem rising {l : List GS} (h : ∀ i (hi : i < l.length), i = 0 ∨ (l[i - 1]'(by omega)).f0 < (l[i]).f0) : ∀ (d i j : Nat) (hi : i < l.length) (hj : j < l.length), i + d + 1 = j → (l[i]).f0 < (l[j]).f0
  | 0, i, j, hi, hj, e => by
    rcases h j hj with h0 | h0
    · omega
    · have e2 : j - 1 = i := by omega
      simp only [e2] at h0
      exact h0
  | d + 1, i, j, hi, hj, e => by
    have h1 := rising h d i (j - 1) hi (by omega) (by omega)
    rcases h j hj with h0 | h0
    · omega
    · exact Int.lt_trans h1 h0
theorem rPreG_all {ps : List PS} (hp : OkP ps) (l : List GS) : rPreG ps l l.length = true ↔ OkG ps l := by
  rw [rPreG_at]
  constructor
  · intro h
    have hr := rising (l := l) (fun i hi => ((rOkG_iff hp hi).1 (h i hi)).2.1)
    refine ⟨fun p hp2 => ?_, List.pairwise_iff_getElem.2 fun i j hi hj hij => ⟨hr (j - i - 1) i j hi hj (by omega), fun h0 he => ?_⟩⟩
    · obtain ⟨i, hi, rfl⟩ := List.mem_iff_getElem.1 hp2
      exact ((rOkG_iff hp hi).1 (h i hi)).1
    · have h1 := ((rOkG_iff hp hi).1 (h i hi)).2.2 h0
      have h2 : hasN l (l[i]).f2 ≤ 1 := by omega
      unfold hasN at h2
      rw [count_le_one, List.pairwise_iff_getElem] at h2
      exact h2 i j hi hj hij (by simp) (by simp [he])
  · intro h i hi
    have hf := h.1 _ (List.getElem_mem hi)
    refine (rOkG_iff hp hi).2 ⟨hf, ?_, fun h0 => ?_⟩
    · by_cases h0 : i = 0
      · exact .inl h0
      · exact .inr ((List.pairwise_iff_getElem.1 h.2 (i - 1) i (by omega) hi (by omega)).1)
    · have h2 : hasN l (l[i]).f2 ≤ 1 := by
        unfold hasN
        rw [count_le_one]
        refine h.2.imp fun {a b} hab h1 h2 => ?_
        simp only [decide_eq_true_eq] at h1 h2
        exact hab.2 (by omega) (by omega)
      have h3 : 1 ≤ hasN l (l[i]).f2 := (count_pos _ _).2 ⟨_, List.getElem_mem hi, by simp⟩
      omega
theorem ref_iff (a : Int) (ps : List PS) (gs : List GS) : refAll a ps gs = true ↔ SnapOk a ps gs := by
  unfold refAll SnapOk
  simp only [Bool.and_eq_true, rPreP_all, fitB_iff, Bool.not_eq_true', decide_eq_false_iff_not]
  constructor
  · rintro ⟨⟨⟨h1, h2⟩, h3⟩, h4, h5⟩; exact ⟨h1, by omega, by omega, h4, (rPreG_all h4 gs).1 h5⟩
  · rintro ⟨h1, h2, h3, h4, h5⟩; exact ⟨⟨⟨h1, by omega⟩, by omega⟩, h4, (rPreG_all h4 gs).2 h5⟩
theorem ref_eq (a : Int) (ps : List PS) (gs : List GS) : refAll a ps gs = mayAll a ps gs := by
  rw [Bool.eq_iff_iff, ref_iff, may_iff]
theorem rmay_f (a : Int) (ps : List PS) (gs : List GS) : shuttlecockref08_May.f a ps gs = some (mayAll a ps gs) := congrArg some (ref_eq a ps gs)
section
variable (s : ByteArray) (hs : s.size < 4611686018427387904)
include hs
theorem refNum' (r : Rd) : Ev (fun k => shuttlecockref02_Reader_Num.f k s r.a r.e r.f) ((rdNum (lst s) r).1, s, (rdNum (lst s) r).2.a, (rdNum (lst s) r).2.e, (rdNum (lst s) r).2.f) := refNum s r.a r.e r.f hs rfl
theorem rl1_ev (t : Int) (ps : List PS) (M : Nat) (hM : M ≤ 1000) : ∀ (d i : Nat) (r : Rd) (acc : List GS), i + d = M → acc.length ≤ i → r.ok (lst s) →
    Ev (fun k => shuttlecockref08_Decode.l1 k s (M : Int) (i : Int) s r.a r.e r.f t ps acc) (decG (lst s) t ps (acc ++ (dGs (lst s) d r).1) (dGs (lst s) d r).2)
  | 0, i, r, acc, hi, ha, hk => by
    refine Ev.step (fun k => shuttlecockref08_Decode.l1.eq_2 ..) ?_
    refine evNo (by omega) ?_
    simp only [dGs, List.append_nil, rmay_f, Option.bind_some]
    unfold decG rdDone
    rw [lst_length]
    have hk2 := hk.2
    rw [lst_length] at hk2
    by_cases c : r.e = 0
    · simp only [if_pos c]
      by_cases c2 : r.a < (s.size : Int)
      · have hd : (r.e == 0 && r.a == (s.size : Int)) = false := by simp [c]; omega
        rw [hd]
        refine evYes c2 ?_
        exact Ev.now _
      · have hd : (r.e == 0 && r.a == (s.size : Int)) = true := by simp [c]; omega
        rw [hd]
        refine evNo c2 ?_
        cases mayAll t ps acc <;> exact Ev.now _
    · simp only [if_neg c]
      exact Ev.now _
  | d + 1, i, r, acc, hi, ha, hk => by
    refine Ev.step (fun k => shuttlecockref08_Decode.l1.eq_2 ..) ?_
    refine evYes (by omega) ?_
    refine Ev.bind (refNum' s hs r) ?_
    refine Ev.bind (refNum' s hs _) ?_
    refine Ev.bind (refNum' s hs _) ?_
    refine Ev.bind (refNum' s hs _) ?_
    refine evYes (by omega) ?_
    rw [nxt (by omega)]
    have h := rl1_ev t ps M hM d (i + 1) (r4 (lst s) r) (acc ++ [⟨(rdNum (lst s) r).1, (rdNum (lst s) (rdNum (lst s) r).2).1, (rdNum (lst s) (rdNum (lst s) (rdNum (lst s) r).2).2).1, (rdNum (lst s) (rdNum (lst s) (rdNum (lst s) (rdNum (lst s) r).2).2).2).1⟩]) (by omega) (by simp; omega) (rdNum_ok (rdNum_ok (rdNum_ok (rdNum_ok hk))))
    simp only [List.append_assoc, List.singleton_append] at h
    exact h
omit hs in
theorem rdNum_zero (l : List UInt8) (r : Rd) (h : (rdNum l r).2.e ≠ 0) : (rdNum l r).1 = 0 := by
  unfold rdNum at h ⊢
  split
  · rename_i c
    rw [if_pos c] at h
    split
    · rename_i c2
      rw [if_pos c2] at h
      exact absurd c h
    · rfl
  · rfl
omit hs in
theorem dPs_ok : ∀ (d : Nat) (r : Rd), r.ok (lst s) → (dPs (lst s) d r).2.ok (lst s)
  | 0, r, h => h
  | d + 1, r, h => dPs_ok d _ (rdNum_ok (rdNum_ok h))
theorem rl0_ev (t : Int) (M : Nat) (hM : M ≤ 64) : ∀ (d i : Nat) (r : Rd) (acc : List PS), i + d = M → acc.length ≤ i → r.ok (lst s) →
    Ev (fun k => shuttlecockref08_Decode.l0 k s (M : Int) (i : Int) s r.a r.e r.f t acc) (decM (lst s) t (acc ++ (dPs (lst s) d r).1) (rdNum (lst s) (dPs (lst s) d r).2))
  | 0, i, r, acc, hi, ha, hk => by
    refine Ev.step (fun k => shuttlecockref08_Decode.l0.eq_2 ..) ?_
    refine evNo (by omega) ?_
    refine Ev.bind (refNum' s hs r) ?_
    simp only [dPs, List.append_nil]
    have hn := rdNum_nonneg (lst s) r
    unfold decM
    by_cases c0 : (rdNum (lst s) r).2.e = 0
    · refine evYes c0 ?_
      by_cases c : (rdNum (lst s) r).1 > 1000
      · rw [if_pos c]
        exact evYes c (Ev.now _)
      · rw [if_neg c]
        refine evNo c ?_
        have h := rl1_ev s hs t acc (rdNum (lst s) r).1.toNat (by omega) (rdNum (lst s) r).1.toNat 0 (rdNum (lst s) r).2 [] (by omega) (by simp) (rdNum_ok hk)
        rw [Int.toNat_of_nonneg hn.1] at h
        exact h
    · refine evNo c0 ?_
      have h0 := rdNum_zero (lst s) r c0
      rw [if_neg (by omega), h0]
      simp only [Int.toNat_zero, dGs, decG]
      rw [if_neg c0]
      exact Ev.now _
  | d + 1, i, r, acc, hi, ha, hk => by
    refine Ev.step (fun k => shuttlecockref08_Decode.l0.eq_2 ..) ?_
    refine evYes (by omega) ?_
    refine Ev.bind (refNum' s hs r) ?_
    refine Ev.bind (refNum' s hs _) ?_
    refine evYes (by omega) ?_
    rw [nxt (by omega)]
    have h := rl0_ev t M hM d (i + 1) (rdNum (lst s) (rdNum (lst s) r).2).2 (acc ++ [⟨(rdNum (lst s) r).1, (rdNum (lst s) (rdNum (lst s) r).2).1⟩]) (by omega) (by simp; omega) (rdNum_ok (rdNum_ok hk))
    simp only [List.append_assoc, List.singleton_append] at h
    exact h
theorem rDecode.ev : Ev (fun k => shuttlecockref08_Decode.f k s) (decL (lst s)) := by
  unfold shuttlecockref08_Decode.f
  refine Ev.bind (refNum' s hs ⟨0, 0, 0⟩) ?_
  refine Ev.bind (refNum' s hs _) ?_
  unfold decL decN
  have h00 : Rd.ok (lst s) ⟨0, 0, 0⟩ := ⟨Int.le_refl _, by simp⟩
  have hn := rdNum_nonneg (lst s) (rdNum (lst s) ⟨0, 0, 0⟩).2
  by_cases c : (rdNum (lst s) (rdNum (lst s) ⟨0, 0, 0⟩).2).1 > 64
  · rw [if_pos c]
    exact evYes c (Ev.now _)
  · rw [if_neg c]
    refine evNo c ?_
    have h := rl0_ev s hs (rdNum (lst s) ⟨0, 0, 0⟩).1 (rdNum (lst s) (rdNum (lst s) ⟨0, 0, 0⟩).2).1.toNat (by omega) (rdNum (lst s) (rdNum (lst s) ⟨0, 0, 0⟩).2).1.toNat 0 (rdNum (lst s) (rdNum (lst s) ⟨0, 0, 0⟩).2).2 [] (by omega) (by simp) (rdNum_ok (rdNum_ok h00))
    rw [Int.toNat_of_nonneg hn.1] at h
    exact h
end
theorem dropP {l : List PS} {i : Nat} (h : i < l.length) : rowsP (l.drop i) = [(rd_T46 l (i : Int)).f0, (rd_T46 l (i : Int)).f1] :: rowsP (l.drop (i + 1)) := by
  rw [rdP h, List.drop_eq_getElem_cons h]
  rfl
theorem dropG {l : List GS} {i : Nat} (h : i < l.length) : rowsG (l.drop i) = [(rd_T36 l (i : Int)).f0, (rd_T36 l (i : Int)).f1, (rd_T36 l (i : Int)).f2, (rd_T36 l (i : Int)).f3] :: rowsG (l.drop (i + 1)) := by
  rw [rdG h, List.drop_eq_getElem_cons h]
  rfl
section
variable (a : Int) (ps : List PS) (gs : List GS) (hp : ps.length ≤ 64) (hg : gs.length ≤ 1000)
include hp hg
theorem re1 : ∀ (d i : Nat) (acc : List Int), i + d = gs.length → acc.length ≤ 10 + 2 * ps.length + 4 * i → Ev (fun k => shuttlecockref08_Encode.l1 k acc (i : Int) a ps gs) (arr (numsL (acc ++ (rowsG (gs.drop i)).flatten)))
  | 0, i, acc, hi, ha => by
    refine Ev.step (fun k => shuttlecockref08_Encode.l1.eq_2 ..) ?_
    refine evNo (by omega) ?_
    rw [List.drop_eq_nil_of_le (by omega)]
    simp only [rowsG, List.map_nil, List.flatten_nil, List.append_nil]
    exact Ev.bind (rNums acc (by omega)) (Ev.now _)
  | d + 1, i, acc, hi, ha => by
    refine Ev.step (fun k => shuttlecockref08_Encode.l1.eq_2 ..) ?_
    refine evYes (by omega) (evYes (by omega) ?_)
    simp only [Option.bind_some]
    refine evYes (by simp; omega) ?_
    rw [nxt (by omega), dropG (by omega)]
    have := re1 d (i + 1) (acc ++ [(rd_T36 gs (i : Int)).f0, (rd_T36 gs (i : Int)).f1, (rd_T36 gs (i : Int)).f2, (rd_T36 gs (i : Int)).f3]) (by omega) (by simp; omega)
    simpa only [List.append_assoc, List.flatten_cons] using this
theorem re0 : ∀ (d i : Nat) (acc : List Int), i + d = ps.length → acc.length ≤ 2 + 2 * i → Ev (fun k => shuttlecockref08_Encode.l0 k acc (i : Int) a ps gs) (arr (numsL (acc ++ ((rowsP (ps.drop i)) ++ ([(gs.length : Int)] :: rowsG gs)).flatten)))
  | 0, i, acc, hi, ha => by
    refine Ev.step (fun k => shuttlecockref08_Encode.l0.eq_2 ..) ?_
    refine evNo (by omega) ?_
    refine evYes (by omega) ?_
    rw [List.drop_eq_nil_of_le (by omega)]
    have := re1 a ps gs hp hg gs.length 0 (acc ++ [(gs.length : Int)]) (by omega) (by simp; omega)
    simpa [rowsP] using this
  | d + 1, i, acc, hi, ha => by
    refine Ev.step (fun k => shuttlecockref08_Encode.l0.eq_2 ..) ?_
    refine evYes (by omega) (evYes (by omega) ?_)
    simp only [Option.bind_some]
    refine evYes (by simp; omega) ?_
    rw [nxt (by omega), dropP (by omega)]
    have := re0 d (i + 1) (acc ++ [(rd_T46 ps (i : Int)).f0, (rd_T46 ps (i : Int)).f1]) (by omega) (by simp; omega)
    simpa only [List.append_assoc, List.flatten_cons, List.cons_append] using this
end
theorem rEncode.ev (a : Int) (ps : List PS) (gs : List GS) : Ev (fun k => shuttlecockref08_Encode.f k a ps gs) (arr (encL' a ps gs)) := by
  unfold shuttlecockref08_Encode.f encL'
  simp only [rmay_f, Option.bind_some]
  by_cases c : mayAll a ps gs = true
  · rw [if_pos c]
    have ho := (may_iff a ps gs).1 c
    refine evYes c ?_
    have := re0 a ps gs ho.2.1 ho.2.2.1 ps.length 0 [a, (ps.length : Int)] (by omega) (by simp)
    rw [show ([a, (ps.length : Int)] ++ ((rowsP (ps.drop 0)) ++ ([(gs.length : Int)] :: rowsG gs)).flatten) = numsS a ps gs by simp [numsS, rowsS], numsL_fit (nums_fit ho)] at this
    exact this
  · rw [if_neg c]
    exact evNo c (Ev.now _)
end Go.Proofs.Ythfdhoegboeaeaa.SnapR
