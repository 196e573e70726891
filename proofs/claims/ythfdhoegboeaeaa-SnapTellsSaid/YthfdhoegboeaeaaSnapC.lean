/- What was written of a snap is read; what is read was written; cut off it is too short. Plain lists alone; and the package's fixed calls. -/
import Derived.Test.YthfdhoegboeaeaaQx8
import Derived.Test.YthfdhoegboeaeaaSnapB
set_option linter.unusedVariables false
set_option linter.unusedSectionVars false
set_option linter.unusedSimpArgs false
namespace Go.Proofs.Ythfdhoegboeaeaa.SnapC
open Go Go.RowKit Go.Proofs.Ythfdhoegboeaeaa.Q Go.Proofs.YthfdhoegboeaeaaW.PrintWords Go.Proofs.YthfdhoegboeaeaaW.PrintLast Go.Proofs.YthfdhoegboeaeaaW.PrintMore ShCore SnapA SnapB

/-! ### what is read of a text, cut at c or whole: each number right, or the error -/
/-- A reader of the first cut bytes: at pos without an error; or, that lying behind the cut, with the error that they are too short. -/
def Inv (pos cut : Nat) (r : Rd) : Prop := (pos ≤ cut ∧ r.e = 0 ∧ r.a = pos) ∨ (cut < pos ∧ r.e = 10)
def flat (l : List Int) : List UInt8 := l.flatMap put
theorem err_num {s : List UInt8} {r : Rd} (h : r.e = 10) : rdNum s r = (0, r) := by
  unfold rdNum
  rw [if_neg (by omega)]
theorem step_of {s : List UInt8} {cut : Nat} (pre : List UInt8) (n : Int) (rest : List UInt8) (hn : put n ≠ []) (hs : s = (pre ++ put n ++ rest).take cut) (r : Rd) (h : Inv pre.length cut r) :
    Inv (pre ++ put n).length cut (rdNum s r).2 ∧ (((pre ++ put n).length ≤ cut ∧ (rdNum s r).1 = n) ∨ (cut < (pre ++ put n).length ∧ (rdNum s r).1 = 0)) := by
  subst hs
  obtain ⟨a, e, f⟩ := r
  rw [List.length_append]
  rcases h with ⟨hp, he, ha⟩ | ⟨hc, he⟩
  · simp only at he ha
    subst he ha
    by_cases c : pre.length + (put n).length ≤ cut
    · rw [take_in _ _ _ _ c, rdNum_at hn]
      exact ⟨.inl ⟨c, rfl, by simp⟩, .inl ⟨c, rfl⟩⟩
    · rw [rdNum_cut0 hn pre rest cut f hp (by omega)]
      exact ⟨.inr ⟨by omega, rfl⟩, .inr ⟨by omega, rfl⟩⟩
  · rw [err_num he]
    exact ⟨.inr ⟨by omega, he⟩, .inr ⟨by omega, rfl⟩⟩
theorem dPs_cut {s : List UInt8} {cut : Nat} : ∀ (ps : List PS) (pre rest : List UInt8) (r : Rd), (∀ n ∈ (rowsP ps).flatten, put n ≠ []) → s = (pre ++ flat (rowsP ps).flatten ++ rest).take cut → Inv pre.length cut r →
    Inv (pre ++ flat (rowsP ps).flatten).length cut (dPs s ps.length r).2 ∧ ((pre ++ flat (rowsP ps).flatten).length ≤ cut → (dPs s ps.length r).1 = ps)
  | [], pre, rest, r, hf, hs, h => by
    simp only [rowsP, List.map_nil, List.flatten_nil, flat, List.flatMap_nil, List.append_nil, List.length_nil, dPs]
    exact ⟨h, fun _ => trivial⟩
  | p :: ps, pre, rest, r, hf, hs, h => by
    have e1 : (rowsP (p :: ps)).flatten = p.f0 :: p.f1 :: (rowsP ps).flatten := rfl
    rw [e1] at hf hs ⊢
    have h1 := step_of (s := s) (cut := cut) (pre) p.f0 (put p.f1 ++ (flat (rowsP ps).flatten ++ rest)) (hf _ (by simp)) (by rw [hs]; congr 1; simp [flat]) _ h
    have h2 := step_of (s := s) (cut := cut) (pre ++ put p.f0) p.f1 (flat (rowsP ps).flatten ++ rest) (hf _ (by simp)) (by rw [hs]; congr 1; simp [flat]) _ h1.1
    have h9 := dPs_cut (s := s) (cut := cut) ps (pre ++ put p.f0 ++ put p.f1) rest _ (fun n hn => hf n (by simp [hn])) (by rw [hs]; congr 1; simp [flat]) h2.1
    have e2 : pre ++ flat (p.f0 :: p.f1 :: (rowsP ps).flatten) = pre ++ put p.f0 ++ put p.f1 ++ flat (rowsP ps).flatten := by simp [flat]
    rw [e2]
    refine ⟨h9.1, fun h0 => ?_⟩
    simp only [List.length_append] at h0
    have g1 : (rdNum s r).1 = p.f0 := h1.2.elim (fun hh => hh.2) (fun hh => by have := hh.1; simp only [List.length_append] at this; omega)
    have g2 : (rdNum s (rdNum s r).2).1 = p.f1 := h2.2.elim (fun hh => hh.2) (fun hh => by have := hh.1; simp only [List.length_append] at this; omega)
    have g9 := h9.2 (by simp only [List.length_append]; omega)
    show (⟨(rdNum s r).1, (rdNum s (rdNum s r).2).1⟩ :: (dPs s ps.length (rdNum s (rdNum s r).2).2).1 : List PS) = p :: ps
    rw [g1, g2, g9]
theorem dGs_cut {s : List UInt8} {cut : Nat} : ∀ (ps : List GS) (pre rest : List UInt8) (r : Rd), (∀ n ∈ (rowsG ps).flatten, put n ≠ []) → s = (pre ++ flat (rowsG ps).flatten ++ rest).take cut → Inv pre.length cut r →
    Inv (pre ++ flat (rowsG ps).flatten).length cut (dGs s ps.length r).2 ∧ ((pre ++ flat (rowsG ps).flatten).length ≤ cut → (dGs s ps.length r).1 = ps)
  | [], pre, rest, r, hf, hs, h => by
    simp only [rowsG, List.map_nil, List.flatten_nil, flat, List.flatMap_nil, List.append_nil, List.length_nil, dGs]
    exact ⟨h, fun _ => trivial⟩
  | p :: ps, pre, rest, r, hf, hs, h => by
    have e1 : (rowsG (p :: ps)).flatten = p.f0 :: p.f1 :: p.f2 :: p.f3 :: (rowsG ps).flatten := rfl
    rw [e1] at hf hs ⊢
    have h1 := step_of (s := s) (cut := cut) (pre) p.f0 (put p.f1 ++ (put p.f2 ++ (put p.f3 ++ (flat (rowsG ps).flatten ++ rest)))) (hf _ (by simp)) (by rw [hs]; congr 1; simp [flat]) _ h
    have h2 := step_of (s := s) (cut := cut) (pre ++ put p.f0) p.f1 (put p.f2 ++ (put p.f3 ++ (flat (rowsG ps).flatten ++ rest))) (hf _ (by simp)) (by rw [hs]; congr 1; simp [flat]) _ h1.1
    have h3 := step_of (s := s) (cut := cut) (pre ++ put p.f0 ++ put p.f1) p.f2 (put p.f3 ++ (flat (rowsG ps).flatten ++ rest)) (hf _ (by simp)) (by rw [hs]; congr 1; simp [flat]) _ h2.1
    have h4 := step_of (s := s) (cut := cut) (pre ++ put p.f0 ++ put p.f1 ++ put p.f2) p.f3 (flat (rowsG ps).flatten ++ rest) (hf _ (by simp)) (by rw [hs]; congr 1; simp [flat]) _ h3.1
    have h9 := dGs_cut (s := s) (cut := cut) ps (pre ++ put p.f0 ++ put p.f1 ++ put p.f2 ++ put p.f3) rest _ (fun n hn => hf n (by simp [hn])) (by rw [hs]; congr 1; simp [flat]) h4.1
    have e2 : pre ++ flat (p.f0 :: p.f1 :: p.f2 :: p.f3 :: (rowsG ps).flatten) = pre ++ put p.f0 ++ put p.f1 ++ put p.f2 ++ put p.f3 ++ flat (rowsG ps).flatten := by simp [flat]
    rw [e2]
    refine ⟨h9.1, fun h0 => ?_⟩
    simp only [List.length_append] at h0
    have g1 : (rdNum s r).1 = p.f0 := h1.2.elim (fun hh => hh.2) (fun hh => by have := hh.1; simp only [List.length_append] at this; omega)
    have g2 : (rdNum s (rdNum s r).2).1 = p.f1 := h2.2.elim (fun hh => hh.2) (fun hh => by have := hh.1; simp only [List.length_append] at this; omega)
    have g3 : (rdNum s (rdNum s (rdNum s r).2).2).1 = p.f2 := h3.2.elim (fun hh => hh.2) (fun hh => by have := hh.1; simp only [List.length_append] at this; omega)
    have g4 : (rdNum s (rdNum s (rdNum s (rdNum s r).2).2).2).1 = p.f3 := h4.2.elim (fun hh => hh.2) (fun hh => by have := hh.1; simp only [List.length_append] at this; omega)
    have g9 := h9.2 (by simp only [List.length_append]; omega)
    have e9 : (rdNum s (rdNum s (rdNum s (rdNum s r).2).2).2).2 = r4 s r := rfl
    rw [e9] at g9
    show (⟨(rdNum s r).1, (rdNum s (rdNum s r).2).1, (rdNum s (rdNum s (rdNum s r).2).2).1, (rdNum s (rdNum s (rdNum s (rdNum s r).2).2).2).1⟩ :: (dGs s ps.length (r4 s r)).1 : List GS) = p :: ps
    rw [g1, g2, g3, g4, g9]
theorem decM_err {s : List UInt8} {a : Int} {ps : List PS} {q : Rd} (h : q.e = 10) : (decM s a ps (0, q)) = bad 10 := by
  unfold decM decG
  rw [if_neg (show ¬ (0 : Int) > 1000 by omega)]
  simp only [Int.toNat_zero, dGs]
  rw [if_neg (by omega), h]
theorem decN_err {s : List UInt8} {a : Int} {q : Rd} (h : q.e = 10) : (decN s a (0, q)) = bad 10 := by
  unfold decN
  rw [if_neg (show ¬ (0 : Int) > 64 by omega)]
  simp only [Int.toNat_zero, dPs]
  rw [err_num h]
  exact decM_err h
section
variable {a : Int} {ps : List PS} {gs : List GS}
theorem enc_split (a : Int) (ps : List PS) (gs : List GS) : encB a ps gs = put a ++ put (ps.length : Int) ++ flat (rowsP ps).flatten ++ put (gs.length : Int) ++ flat (rowsG gs).flatten := by
  unfold encB numsS rowsS flat
  simp [List.flatMap_append]
/-- A snap's bytes, cut at c (or not): the whole is read, or it is too short. -/
theorem dec_cut (h : SnapOk a ps gs) (cut : Nat) : decL ((encB a ps gs).take cut) = if (encB a ps gs).length ≤ cut then (a, ps, gs, 0) else bad 10 := by
  have hn := nums_fit h
  have hm := (may_iff a ps gs).2 h
  obtain ⟨ha, hp, hg, hok1, hok2⟩ := h
  have hmem : ∀ n, n = a ∨ n = (ps.length : Int) ∨ n ∈ (rowsP ps).flatten ∨ n = (gs.length : Int) ∨ n ∈ (rowsG gs).flatten → put n ≠ [] := by
    intro n hx
    refine hn n ?_
    unfold numsS rowsS
    simp only [List.flatten_cons, List.flatten_append, List.mem_append, List.mem_cons, List.not_mem_nil, or_false]
    rcases hx with h | h | h | h | h
    · exact .inl (.inl h)
    · exact .inl (.inr h)
    · exact .inr (.inl h)
    · exact .inr (.inr (.inl h))
    · exact .inr (.inr (.inr h))
  generalize hs : (encB a ps gs).take cut = s
  have hsp := enc_split a ps gs
  have k1 := step_of (s := s) (cut := cut) [] a (put (ps.length : Int) ++ (flat (rowsP ps).flatten ++ (put (gs.length : Int) ++ flat (rowsG gs).flatten))) (hmem _ (.inl rfl)) (by rw [← hs, hsp]; congr 1; simp) ⟨0, 0, 0⟩ (.inl ⟨Nat.zero_le _, rfl, rfl⟩)
  have k2 := step_of (s := s) (cut := cut) ([] ++ put a) (ps.length : Int) (flat (rowsP ps).flatten ++ (put (gs.length : Int) ++ flat (rowsG gs).flatten)) (hmem _ (.inr (.inl rfl))) (by rw [← hs, hsp]; congr 1; simp) _ k1.1
  have k3 := dPs_cut (s := s) (cut := cut) ps ([] ++ put a ++ put (ps.length : Int)) (put (gs.length : Int) ++ flat (rowsG gs).flatten) _ (fun n hx => hmem _ (.inr (.inr (.inl hx)))) (by rw [← hs, hsp]; congr 1; simp) k2.1
  have k4 := step_of (s := s) (cut := cut) ([] ++ put a ++ put (ps.length : Int) ++ flat (rowsP ps).flatten) (gs.length : Int) (flat (rowsG gs).flatten) (hmem _ (.inr (.inr (.inr (.inl rfl))))) (by rw [← hs, hsp]; rfl) _ k3.1
  have k5 := dGs_cut (s := s) (cut := cut) gs ([] ++ put a ++ put (ps.length : Int) ++ flat (rowsP ps).flatten ++ put (gs.length : Int)) [] _ (fun n hx => hmem _ (.inr (.inr (.inr (.inr hx))))) (by rw [← hs, hsp]; congr 1; simp) k4.1
  have hlen : ([] ++ put a ++ put (ps.length : Int) ++ flat (rowsP ps).flatten ++ put (gs.length : Int) ++ flat (rowsG gs).flatten).length = (encB a ps gs).length := by rw [hsp]; simp
  rw [hlen] at k5
  have hl2 : (encB a ps gs).length = ([] ++ put a).length + (put (ps.length : Int)).length + (flat (rowsP ps).flatten).length + (put (gs.length : Int)).length + (flat (rowsG gs).flatten).length := by rw [hsp]; simp; omega
  unfold decL
  rcases k2.2 with ⟨c2, e2⟩ | ⟨c2, e2⟩
  · have e2' : rdNum s (rdNum s ⟨0, 0, 0⟩).2 = ((ps.length : Int), (rdNum s (rdNum s ⟨0, 0, 0⟩).2).2) := Prod.ext e2 rfl
    rw [e2']
    unfold decN
    rw [if_neg (show ¬ ((ps.length : Int) > 64) by omega)]
    simp only [Int.toNat_natCast]
    rcases k4.2 with ⟨c4, e4⟩ | ⟨c4, e4⟩
    · have e4' : rdNum s (dPs s ps.length (rdNum s (rdNum s ⟨0, 0, 0⟩).2).2).2 = ((gs.length : Int), (rdNum s (dPs s ps.length (rdNum s (rdNum s ⟨0, 0, 0⟩).2).2).2).2) := Prod.ext e4 rfl
      rw [e4']
      unfold decM
      rw [if_neg (show ¬ ((gs.length : Int) > 1000) by omega)]
      simp only [Int.toNat_natCast]
      unfold decG
      by_cases c : (encB a ps gs).length ≤ cut
      · rw [if_pos c]
        have hsl : s = encB a ps gs := by rw [← hs, List.take_of_length_le c]
        have hsn : s.length = (encB a ps gs).length := by rw [hsl]
        rcases k5.1 with ⟨_, h0, h1⟩ | ⟨h0, _⟩
        · rw [if_pos h0]
          have st0 : (rdNum s ⟨0, 0, 0⟩).1 = a := k1.2.elim (fun hh => hh.2) (fun hh => by have := hh.1; omega)
          have hd : rdDone s (dGs s gs.length (rdNum s (dPs s ps.length (rdNum s (rdNum s ⟨0, 0, 0⟩).2).2).2).2).2 = true := by
            unfold rdDone
            rw [h0, h1, hsn]
            simp
          rw [if_pos hd, k5.2 c, k3.2 (by simp only [List.length_append] at c4 ⊢; omega), st0, if_pos hm]
        · omega
      · rw [if_neg c]
        have h10 := k5.1.elim (fun hh => absurd hh.1 c) (fun hh => hh.2)
        rw [if_neg (by omega), h10]
    · have h10 := k4.1.elim (fun hh => absurd hh.1 (by omega)) (fun hh => hh.2)
      have e4' : rdNum s (dPs s ps.length (rdNum s (rdNum s ⟨0, 0, 0⟩).2).2).2 = (0, (rdNum s (dPs s ps.length (rdNum s (rdNum s ⟨0, 0, 0⟩).2).2).2).2) := Prod.ext e4 rfl
      rw [e4', decM_err h10, if_neg (by simp only [List.length_append] at c4 hl2; omega)]
  · have h10 := k2.1.elim (fun hh => absurd hh.1 (by omega)) (fun hh => hh.2)
    have e2' : rdNum s (rdNum s ⟨0, 0, 0⟩).2 = (0, (rdNum s (rdNum s ⟨0, 0, 0⟩).2).2) := Prod.ext e2 rfl
    rw [e2', decN_err h10, if_neg (by simp only [List.length_append] at c2 hl2; omega)]
theorem dec_enc (h : SnapOk a ps gs) : decL (encB a ps gs) = (a, ps, gs, 0) := by
  have := dec_cut h (encB a ps gs).length
  rwa [List.take_length, if_pos (Nat.le_refl _)] at this
theorem enc_ne (h : SnapOk a ps gs) : encB a ps gs ≠ [] := by
  rw [enc_split]
  intro e
  simp only [List.append_eq_nil_iff] at e
  exact put_fit h.1 e.1.1.1.1
theorem encL'_nil : encL' a ps gs = [] ↔ mayAll a ps gs = false := by
  unfold encL'
  by_cases c : mayAll a ps gs = true
  · rw [if_pos c]
    simp only [c, Bool.true_eq_false, iff_false]
    exact enc_ne ((may_iff a ps gs).1 c)
  · rw [if_neg c]
    simpa using c
theorem encB_len (h : SnapOk a ps gs) : (encB a ps gs).length ≤ 100000 := by
  have h1 := flat_len (numsS a ps gs)
  have h2 : (numsS a ps gs).length ≤ 4 * (rowsS a ps gs).length := by
    unfold numsS
    have hr := rows_fit h
    generalize rowsS a ps gs = rs at hr
    induction rs with
    | nil => simp
    | cons l rs ih =>
      have := ih (fun x hx => hr x (List.mem_cons_of_mem _ hx))
      have := (hr l List.mem_cons_self).1
      simp only [List.flatten_cons, List.length_append, List.length_cons]
      omega
  rw [rows_len] at h2
  have := h.2.1
  have := h.2.2.1
  unfold encB
  omega
end
/-! ### what is read was written -/
theorem num_back {s : List UInt8} {r : Rd} (h : (rdNum s r).2.e = 0) : r.e = 0 ∧ 0 ≤ r.a ∧ r.a ≤ (rdNum s r).2.a ∧ (rdNum s r).2.a ≤ s.length ∧ s.take (rdNum s r).2.a.toNat = s.take r.a.toNat ++ put (rdNum s r).1 := by
  unfold rdNum at h ⊢
  by_cases c : r.e = 0
  · rw [if_pos c] at h ⊢
    by_cases c2 : (takeL s r.a).2.2 = 0
    · rw [if_pos c2] at h ⊢
      obtain ⟨h0, u, e1, h1, h9, hl, hp⟩ := takeL_back s r.a c2
      refine ⟨c, h0, by simp only; omega, by simp only; omega, ?_⟩
      simp only
      rw [hp, e1, show (r.a + (u : Int)).toNat = r.a.toNat + u by omega, List.take_add]
    · rw [if_neg c2] at h
      exact absurd h c2
  · rw [if_neg c] at h
    exact absurd h c
theorem dPs_back {s : List UInt8} : ∀ (n : Nat) (r : Rd), (dPs s n r).2.e = 0 → 0 ≤ r.a → r.a ≤ s.length → r.e = 0 ∧ r.a ≤ (dPs s n r).2.a ∧ (dPs s n r).2.a ≤ s.length ∧ s.take (dPs s n r).2.a.toNat = s.take r.a.toNat ++ flat (rowsP (dPs s n r).1).flatten ∧ (dPs s n r).1.length = n
  | 0, r, h, h0, h1 => ⟨h, Int.le_refl _, h1, by simp [dPs, rowsP, flat], rfl⟩
  | n + 1, r, h, h0, h1 => by
    simp only [dPs] at h ⊢
    have key : ∀ q : Rd, (dPs s n q).2.e = 0 → q.e = 0 := by
      intro q hq
      clear h
      induction n generalizing q with
      | zero => exact hq
      | succ m ih => exact (num_back (num_back (ih _ hq)).1).1
    have a2 := num_back (key _ h)
    have a1 := num_back a2.1
    obtain ⟨_, b1, b2, b3, b4⟩ := dPs_back n _ h (by omega) a2.2.2.2.1
    refine ⟨a1.1, by omega, b2, ?_, by rw [List.length_cons, b4]⟩
    rw [b3, a2.2.2.2.2, a1.2.2.2.2]
    simp [rowsP, flat]
theorem dGs_back {s : List UInt8} : ∀ (n : Nat) (r : Rd), (dGs s n r).2.e = 0 → 0 ≤ r.a → r.a ≤ s.length → r.e = 0 ∧ r.a ≤ (dGs s n r).2.a ∧ (dGs s n r).2.a ≤ s.length ∧ s.take (dGs s n r).2.a.toNat = s.take r.a.toNat ++ flat (rowsG (dGs s n r).1).flatten ∧ (dGs s n r).1.length = n
  | 0, r, h, h0, h1 => ⟨h, Int.le_refl _, h1, by simp [dGs, rowsG, flat], rfl⟩
  | n + 1, r, h, h0, h1 => by
    simp only [dGs] at h ⊢
    have key : ∀ q : Rd, (dGs s n q).2.e = 0 → q.e = 0 := by
      intro q hq
      clear h
      induction n generalizing q with
      | zero => exact hq
      | succ m ih => exact (num_back (num_back (num_back (num_back (ih _ hq)).1).1).1).1
    have a4 := num_back (key _ h)
    have a3 := num_back a4.1
    have a2 := num_back a3.1
    have a1 := num_back a2.1
    obtain ⟨_, b1, b2, b3, b4⟩ := dGs_back n _ h (by have := a4.2.2.1; have := a3.2.2.1; have := a2.2.2.1; have := a1.2.2.1; unfold r4; omega) a4.2.2.2.1
    refine ⟨a1.1, by have := a4.2.2.1; have := a3.2.2.1; have := a2.2.2.1; have := a1.2.2.1; unfold r4 at b1; unfold r4; omega, b2, ?_, by rw [List.length_cons, b4]⟩
    have a4' : s.take (r4 s r).a.toNat = _ := a4.2.2.2.2
    rw [b3, a4', a3.2.2.2.2, a2.2.2.2.2, a1.2.2.2.2]
    simp [rowsG, flat]
/-- What is decoded may be, and its bytes are those; otherwise it is nothing. -/
theorem dec_back (s : List UInt8) : ((decL s).2.2.2 = 0 → SnapOk (decL s).1 (decL s).2.1 (decL s).2.2.1 ∧ encB (decL s).1 (decL s).2.1 (decL s).2.2.1 = s) ∧ ((decL s).2.2.2 ≠ 0 → (decL s).1 = 0 ∧ (decL s).2.1 = [] ∧ (decL s).2.2.1 = []) := by
  unfold decL decN
  by_cases c1 : (rdNum s (rdNum s ⟨0, 0, 0⟩).2).1 > 64
  · rw [if_pos c1]
    exact ⟨fun h => absurd h (by decide), fun _ => ⟨rfl, rfl, rfl⟩⟩
  · rw [if_neg c1]
    unfold decM
    split
    · exact ⟨fun h => absurd h (by decide), fun _ => ⟨rfl, rfl, rfl⟩⟩
    · rename_i c2
      unfold decG
      split
      · rename_i h0
        split
        · rename_i hd
          split
          · rename_i hm
            refine ⟨fun _ => ⟨(may_iff _ _ _).1 hm, ?_⟩, fun h => absurd rfl h⟩
            simp only
            generalize hq : rdNum s (dPs s (rdNum s (rdNum s ⟨0, 0, 0⟩).2).1.toNat (rdNum s (rdNum s ⟨0, 0, 0⟩).2).2).2 = m at *
            have hmn := rdNum_nonneg s (dPs s (rdNum s (rdNum s ⟨0, 0, 0⟩).2).1.toNat (rdNum s (rdNum s ⟨0, 0, 0⟩).2).2).2
            rw [hq] at hmn
            have key : ∀ (n : Nat) (q : Rd), (dGs s n q).2.e = 0 → q.e = 0 := by
              intro n
              induction n with
              | zero => intro q hq; exact hq
              | succ m ih => intro q hq; exact (num_back (num_back (num_back (num_back (ih _ hq)).1).1).1).1
            have keyP : ∀ (n : Nat) (q : Rd), (dPs s n q).2.e = 0 → q.e = 0 := by
              intro n
              induction n with
              | zero => intro q hq; exact hq
              | succ m ih => intro q hq; exact (num_back (num_back (ih _ hq)).1).1
            have m0 := key _ _ h0
            have a4 := num_back (s := s) (r := (dPs s (rdNum s (rdNum s ⟨0, 0, 0⟩).2).1.toNat (rdNum s (rdNum s ⟨0, 0, 0⟩).2).2).2) (by rw [hq]; exact m0)
            rw [hq] at a4
            have a2 := num_back (keyP _ _ a4.1)
            have a1 := num_back a2.1
            have hn2 := rdNum_nonneg s (rdNum s ⟨0, 0, 0⟩).2
            obtain ⟨_, b1, b2, b3, b4⟩ := dPs_back _ _ a4.1 (by omega) a2.2.2.2.1
            obtain ⟨_, d1, d2, d3, d4⟩ := dGs_back _ _ h0 (by omega) a4.2.2.2.1
            have hend : (dGs s m.1.toNat m.2).2.a = (s.length : Int) := by
              unfold rdDone at hd
              simp only [Bool.and_eq_true, beq_iff_eq] at hd
              exact hd.2
            rw [hend, Int.toNat_natCast, List.take_length, a4.2.2.2.2, b3, a2.2.2.2.2, a1.2.2.2.2] at d3
            rw [enc_split, b4, d4, Int.toNat_of_nonneg hn2.1, Int.toNat_of_nonneg hmn.1]
            conv => rhs; rw [d3]
            simp
          · exact ⟨fun h => absurd h (by decide), fun _ => ⟨rfl, rfl, rfl⟩⟩
        · exact ⟨fun h => absurd h (by decide), fun _ => ⟨rfl, rfl, rfl⟩⟩
      · rename_i h0
        exact ⟨fun h => absurd h h0, fun _ => ⟨rfl, rfl, rfl⟩⟩
/-! ### the package's fixed calls -/
theorem one_may : mayAll 5 [⟨1, 2⟩] [⟨1, 2, 1, 3⟩] = true := by decide
theorem bad_may : mayAll 5 [⟨1, 2⟩] [⟨1, 2, 2, 3⟩] = false := by decide
theorem one_enc : encB 5 [⟨1, 2⟩] [⟨1, 2, 1, 3⟩] = [5, 1, 1, 2, 1, 1, 2, 1, 3] := by decide
theorem dec_x : (decL ([5, 1, 1, 2, 1, 1, 2, 1, 3] ++ [120])).2.2.2 = 80 := by decide
theorem dec_nil : (decL []).2.2.2 = 10 := by decide
theorem ev_fixed : Ev (fun k => shuttlecocklaw08_fixed.f k) true := by
  have h1 := (may_iff _ _ _).1 one_may
  have hd := dec_enc h1
  rw [one_enc] at hd
  unfold shuttlecocklaw08_fixed.f shuttlecocklaw08_one.f
  simp only [Option.bind_some]
  refine Ev.bind (Encode.ev _ _ _) ?_
  rw [show encL' 5 [⟨1, 2⟩] [⟨1, 2, 1, 3⟩] = [5, 1, 1, 2, 1, 1, 2, 1, 3] by unfold encL'; rw [if_pos one_may, one_enc]]
  refine Ev.bind (Decode.ev _ (by rw [size_arr]; decide)) ?_
  rw [lst_arr, hd]
  refine evYes (by rw [size_arr]; decide) ?_
  rw [show (⟨#[120]⟩ : ByteArray) = arr [120] from rfl, arr_append]
  refine Ev.bind (Decode.ev _ (by rw [size_arr]; decide)) ?_
  rw [lst_arr]
  refine Ev.bind (Decode.ev (⟨#[]⟩ : ByteArray) (by decide)) ?_
  refine evYes (by decide) ?_
  refine evYes (by rw [toList_lst, lst_arr]) ?_
  refine Ev.bind (Same.ev 5 5 [⟨1, 2⟩] [⟨1, 2⟩] [⟨1, 2, 1, 3⟩] [⟨1, 2, 1, 3⟩] (by decide) (by decide)) ?_
  refine evYes (by simp) (evYes rfl (evYes dec_x (evYes dec_nil ?_)))
  simp only [may_f, Option.bind_some]
  refine evYes one_may ?_
  refine evNo ?_ ?_
  · exact fun h => Bool.false_ne_true (bad_may.symm.trans h)
  · refine Ev.bind (Encode.ev _ _ _) ?_
    have e : encL' 5 [⟨1, 2⟩] [⟨1, 2, 2, 3⟩] = [] := by unfold encL'; rw [if_neg (by rw [bad_may]; decide)]
    have : Ev (fun _ => some ((arr (encL' 5 [⟨1, 2⟩] [⟨1, 2, 2, 3⟩])).toList == ([] : List UInt8))) true := by
      have e2 : ((arr []).toList == ([] : List UInt8)) = true := by rw [toList_lst, lst_arr]; rfl
      rw [e, e2]
      exact Ev.now _
    exact this
end Go.Proofs.Ythfdhoegboeaeaa.SnapC
