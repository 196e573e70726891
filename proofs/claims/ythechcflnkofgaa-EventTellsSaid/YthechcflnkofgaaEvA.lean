/- An event's bytes, and the event at the head of any bytes: plain lists alone. -/
import Derived.Test.YthechcflnkofgaaQx5
import Derived.Test.YthechcflnkofgaaWire2
namespace Go.Proofs.Ythechcflnkofgaa.EvA
open Go Go.RowKit Go.Proofs.Ythechcflnkofgaa.Q Go.Proofs.YthechcflnkofgaaW.PrintWords Go.Proofs.YthechcflnkofgaaW.PrintLast Go.Proofs.YthechcflnkofgaaW.PrintMore ShCore

abbrev ES := S24
def zE : ES := ⟨0, 0, [], ⟨#[]⟩⟩
theorem fitsE_iff (a : Int) : fitsE a = true ↔ 0 ≤ a ∧ a < 4611686018427387904 := by
  unfold fitsE
  split <;> simp <;> omega
theorem expE_iff (a : Int) : expE a = true ↔ 128 ≤ a ∧ a < 256 := by
  unfold expE
  split <;> simp <;> omega
theorem fits_put (a : Int) : fitsE a = true ↔ put a ≠ [] := by
  rw [fitsE_iff]
  constructor
  · intro h
    obtain ⟨m, rfl⟩ : ∃ m : Nat, a = m := ⟨a.toNat, by omega⟩
    exact put_len_nat m (by omega)
  · intro h
    obtain ⟨m, rfl, hm, _⟩ := put_ok h
    omega
theorem fits_nat {a : Int} (h : fitsE a = true) : ∃ m : Nat, a = m ∧ m < 4611686018427387904 ∧ put a = putF 8 m := put_ok ((fits_put a).1 h)
theorem any_outE (l : List Int) : l.any outE = false ↔ ∀ a ∈ l, fitsE a = true := by
  simp only [List.any_eq_false, outE, Bool.not_eq_true', Bool.not_eq_false]
/-! ### numbers, one behind the other -/
def argsD : Nat → List UInt8 → List Int × Nat × Nat
  | 0, _ => ([], 0, 0)
  | n + 1, u => if (tkh u).2.2 = 0 then (if (argsD n (u.drop (tkh u).2.1)).2.2 = 0 then (((tkh u).1 : Int) :: (argsD n (u.drop (tkh u).2.1)).1, (tkh u).2.1 + (argsD n (u.drop (tkh u).2.1)).2.1, 0) else ([], 0, (argsD n (u.drop (tkh u).2.1)).2.2)) else ([], 0, (tkh u).2.2)
theorem tkh_errs (l : List UInt8) : (tkh l).2.2 = 0 ∨ (tkh l).2.2 = 10 ∨ (tkh l).2.2 = 11 := by
  rcases tkh_err l with h | h | h
  · exact .inl h
  · rw [h]; exact .inr (.inl rfl)
  · rw [h]; exact .inr (.inr rfl)
theorem argsD_put : ∀ (l : List Int) (rest : List UInt8), (∀ a ∈ l, fitsE a = true) → argsD l.length (l.flatMap put ++ rest) = (l, (l.flatMap put).length, 0)
  | [], rest, _ => rfl
  | a :: l, rest, h => by
    obtain ⟨m, rfl, hm, hp⟩ := fits_nat (h a (by simp))
    have ih := argsD_put l rest (fun b hb => h b (by simp [hb]))
    rw [List.length_cons, List.flatMap_cons, List.append_assoc, hp]
    unfold argsD
    simp only [tkh_put m hm, List.drop_left, ih, if_true, List.length_append]
theorem argsD_cut : ∀ (l : List Int) (c : Nat), (∀ a ∈ l, fitsE a = true) → c < (l.flatMap put).length → argsD l.length ((l.flatMap put).take c) = ([], 0, 10)
  | [], c, _, hc => by simp at hc
  | a :: l, c, h, hc => by
    obtain ⟨m, rfl, hm, hp⟩ := fits_nat (h a (by simp))
    rw [List.length_cons, List.flatMap_cons, hp]
    rw [List.flatMap_cons, hp, List.length_append] at hc
    unfold argsD
    by_cases c1 : c < (putF 8 m).length
    · rw [List.take_append_of_le_length (by omega), tkh_cut m c c1]
      simp
    · have ih := argsD_cut l (c - (putF 8 m).length) (fun b hb => h b (by simp [hb])) (by omega)
      rw [List.take_append, List.take_of_length_le (by omega)]
      simp only [tkh_put m hm, List.drop_left, ih, if_true]
      simp
theorem argsD_back : ∀ (n : Nat) (u : List UInt8), (argsD n u).2.2 = 0 → (argsD n u).1.length = n ∧ (∀ a ∈ (argsD n u).1, fitsE a = true) ∧ (argsD n u).1.flatMap put = u.take (argsD n u).2.1 ∧ (argsD n u).2.1 ≤ u.length
  | 0, u, _ => by simp [argsD]
  | n + 1, u, h => by
    unfold argsD at h ⊢
    by_cases h1 : (tkh u).2.2 = 0
    · rw [if_pos h1] at h ⊢
      by_cases h2 : (argsD n (u.drop (tkh u).2.1)).2.2 = 0
      · rw [if_pos h2]
        obtain ⟨b1, b2, b3, b4, b5, b6⟩ := tkh_back u h1
        obtain ⟨i1, i2, i3, i4⟩ := argsD_back n _ h2
        rw [List.length_drop] at i4
        refine ⟨by simp [i1], ?_, ?_, by simp only; omega⟩
        · intro a ha
          rcases List.mem_cons.1 ha with rfl | ha
          · rw [fitsE_iff]; omega
          · exact i2 a ha
        · simp only [List.flatMap_cons, b1, i3]
          rw [List.take_add]
      · rw [if_neg h2] at h
        exact absurd h h2
    · rw [if_neg h1] at h
      exact absurd h h1
theorem argsD_errs : ∀ (n : Nat) (u : List UInt8), (argsD n u).2.2 = 0 ∨ (argsD n u).2.2 = 10 ∨ (argsD n u).2.2 = 11
  | 0, u => .inl rfl
  | n + 1, u => by
    unfold argsD
    by_cases h1 : (tkh u).2.2 = 0
    · rw [if_pos h1]
      by_cases h2 : (argsD n (u.drop (tkh u).2.1)).2.2 = 0
      · rw [if_pos h2]; exact .inl rfl
      · rw [if_neg h2]; exact argsD_errs n _
    · rw [if_neg h1]; exact tkh_errs u
/-! ### a text -/
def textD (u : List UInt8) : List UInt8 × Nat × Nat :=
  if (tkh u).2.2 = 0 then (if (tkh u).1 ≤ (u.drop (tkh u).2.1).length then ((u.drop (tkh u).2.1).take (tkh u).1, (tkh u).2.1 + (tkh u).1, 0) else ([], 0, 10)) else ([], 0, (tkh u).2.2)
theorem textD_put (t rest : List UInt8) (ht : t.length < 4611686018427387904) : textD (text t ++ rest) = (t, (text t).length, 0) := by
  unfold textD text
  rw [put_nat _ ht, List.append_assoc]
  simp only [tkh_put _ ht, List.drop_left, List.length_append, if_true]
  rw [if_pos (by omega), List.take_left]
theorem textD_cut (t : List UInt8) (c : Nat) (ht : t.length < 4611686018427387904) (hc : c < (text t).length) : textD ((text t).take c) = ([], 0, 10) := by
  unfold text at hc ⊢
  rw [put_nat _ ht] at hc ⊢
  rw [List.length_append] at hc
  unfold textD
  by_cases c1 : c < (putF 8 t.length).length
  · rw [List.take_append_of_le_length (by omega), tkh_cut _ c c1]
    simp
  · rw [List.take_append, List.take_of_length_le (by omega)]
    simp only [tkh_put _ ht, List.drop_left, if_true]
    rw [if_neg (by rw [List.length_take]; omega)]
theorem textD_back (u : List UInt8) (h : (textD u).2.2 = 0) : (textD u).1.length < 4611686018427387904 ∧ text (textD u).1 = u.take (textD u).2.1 ∧ (textD u).2.1 ≤ u.length := by
  unfold textD at h ⊢
  by_cases h1 : (tkh u).2.2 = 0
  · rw [if_pos h1] at h ⊢
    obtain ⟨b1, b2, b3, b4, b5, b6⟩ := tkh_back u h1
    by_cases h2 : (tkh u).1 ≤ (u.drop (tkh u).2.1).length
    · rw [if_pos h2]
      have e : ((u.drop (tkh u).2.1).take (tkh u).1).length = (tkh u).1 := by rw [List.length_take]; omega
      refine ⟨by simp only [e]; omega, ?_, ?_⟩
      · unfold text
        simp only [e, b1]
        rw [List.take_add]
      · rw [List.length_drop] at h2
        simp only
        omega
    · rw [if_neg h2] at h
      simp at h
  · rw [if_neg h1] at h
    exact absurd h h1
theorem textD_errs (u : List UInt8) : (textD u).2.2 = 0 ∨ (textD u).2.2 = 10 ∨ (textD u).2.2 = 11 := by
  unfold textD
  split
  · split
    · exact .inl rfl
    · exact .inr (.inl rfl)
  · exact tkh_errs u
/-! ### an event -/
def encL (a d : Int) (l : List Int) (t : List UInt8) : List UInt8 := UInt8.ofNat a.toNat :: (put d ++ (if expE a = true then text t else l.flatMap put))
def encE (e : ES) : List UInt8 := if mayE e.f0 e.f1 e.f2 e.f3 = true then encL e.f0 e.f1 e.f2 (lst e.f3) else []
def decC (c : UInt8) (u : List UInt8) : ES × Nat × Nat :=
    if Kind.knownB c.toNat = true ∨ expE c.toNat = true then
      (if (tkh u).2.2 = 0 then
        (if expE c.toNat = true then (if (textD (u.drop (tkh u).2.1)).2.2 = 0 then (⟨c.toNat, (tkh u).1, [], arr (textD (u.drop (tkh u).2.1)).1⟩, 1 + (tkh u).2.1 + (textD (u.drop (tkh u).2.1)).2.1, 0) else (zE, 0, (textD (u.drop (tkh u).2.1)).2.2))
        else (if (argsD (Kind.argsL c.toNat).length (u.drop (tkh u).2.1)).2.2 = 0 then (⟨c.toNat, (tkh u).1, (argsD (Kind.argsL c.toNat).length (u.drop (tkh u).2.1)).1, ⟨#[]⟩⟩, 1 + (tkh u).2.1 + (argsD (Kind.argsL c.toNat).length (u.drop (tkh u).2.1)).2.1, 0) else (zE, 0, (argsD (Kind.argsL c.toNat).length (u.drop (tkh u).2.1)).2.2)))
      else (zE, 0, (tkh u).2.2))
    else (zE, 0, 30)
def decS : List UInt8 → ES × Nat × Nat
  | [] => (zE, 0, 10)
  | c :: u => decC c u
theorem decS_cons (c : UInt8) (u : List UInt8) : decS (c :: u) = decC c u := rfl
theorem knownB_iff (k : Int) : Kind.knownB k = true ↔ 1 ≤ k ∧ k ≤ 10 := by simp [Kind.knownB]
/-- What may be. -/
theorem mayE_iff (a d : Int) (l : List Int) (t : ByteArray) : mayE a d l t = true ↔ fitsE d = true ∧ ((expE a = true ∧ l = []) ∨ (expE a = false ∧ Kind.knownB a = true ∧ lst t = [] ∧ l.length = (Kind.argsL a).length ∧ ∀ x ∈ l, fitsE x = true)) := by
  unfold mayE
  by_cases hd : fitsE d = true
  · rw [if_pos hd]
    by_cases hx : expE a = true
    · rw [if_pos hx]
      simp only [hd, hx, true_and, beq_iff_eq, Bool.true_eq_false, false_and, or_false]
      rw [← List.length_eq_zero_iff]
      omega
    · have hx' : expE a = false := by simpa using hx
      rw [if_neg hx]
      simp only [hd, hx', true_and, Bool.and_eq_true, beq_iff_eq, Bool.not_eq_true', any_outE, Bool.false_eq_true, false_and, false_or, toList_lst]
      constructor
      · rintro ⟨⟨⟨h1, h2⟩, h3⟩, h4⟩
        exact ⟨h1, h2, by omega, h4⟩
      · rintro ⟨h1, h2, h3, h4⟩
        exact ⟨⟨⟨h1, h2⟩, by omega⟩, h4⟩
  · rw [if_neg hd]
    simp [hd]
theorem kind_byte {a : Int} (h : Kind.knownB a = true ∨ expE a = true) : ((UInt8.ofNat a.toNat).toNat : Int) = a := by
  rw [knownB_iff, expE_iff] at h
  rw [u8_ofNat _ (by omega)]
  omega
theorem mayE_kind {a d : Int} {l : List Int} {t : ByteArray} (h : mayE a d l t = true) : Kind.knownB a = true ∨ expE a = true := by
  rcases ((mayE_iff ..).1 h).2 with h | h
  · exact .inr h.1
  · exact .inl h.2.1
set_option maxRecDepth 20000 in
theorem decS_enc (e : ES) (rest : List UInt8) (h : mayE e.f0 e.f1 e.f2 e.f3 = true) (ht : e.f3.size < 4611686018427387904) : decS (encE e ++ rest) = (e, (encE e).length, 0) := by
  obtain ⟨a, d, l, t⟩ := e
  simp only at h ht
  unfold encE
  simp only [h, if_true]
  have hk := mayE_kind h
  have hb := kind_byte hk
  obtain ⟨hd, hcs⟩ := (mayE_iff ..).1 h
  obtain ⟨m, rfl, hm, hp⟩ := fits_nat hd
  unfold encL
  rw [List.cons_append, List.append_assoc]
  rw [decS_cons]
  unfold decC
  rw [hb, if_pos hk, hp]
  simp only [tkh_put m hm, List.drop_left, if_true]
  by_cases hx : expE a = true
  · have hl0 : l = [] := hcs.elim (fun h => h.2) (fun h => absurd (hx.symm.trans h.1) (by simp))
    subst hl0
    simp only [hx, if_true, textD_put (lst t) rest (by rw [lst_length]; exact ht), List.length_cons, List.length_append, Prod.mk.injEq, and_true]
    refine ⟨by rw [arr_lst], by omega⟩
  · have hr := hcs.resolve_left (fun h => hx h.1)
    have hx := hr.1
    have ht0 := hr.2.2.1
    have hl := hr.2.2.2.1
    have hall := hr.2.2.2.2
    simp only [hx, Bool.false_eq_true, if_false, ← hl, argsD_put l rest hall, if_true, List.length_cons, List.length_append, Prod.mk.injEq, and_true]
    refine ⟨by rw [show t = ⟨#[]⟩ from lst_inj ht0], by omega⟩
set_option maxRecDepth 20000 in
theorem decS_cut (e : ES) (c : Nat) (h : mayE e.f0 e.f1 e.f2 e.f3 = true) (ht : e.f3.size < 4611686018427387904) (hc : c < (encE e).length) : decS ((encE e).take c) = (zE, 0, 10) := by
  obtain ⟨a, d, l, t⟩ := e
  simp only at h ht
  unfold encE at hc ⊢
  simp only [h, if_true] at hc ⊢
  have hk := mayE_kind h
  have hb := kind_byte hk
  obtain ⟨hd, hcs⟩ := (mayE_iff ..).1 h
  obtain ⟨m, rfl, hm, hp⟩ := fits_nat hd
  unfold encL at hc ⊢
  cases c with
  | zero => rfl
  | succ c =>
    rw [List.take_succ_cons]
    rw [decS_cons]
    unfold decC
    rw [List.length_cons, List.length_append, hp] at hc
    rw [hb, if_pos hk, hp]
    by_cases c1 : c < (putF 8 m).length
    · rw [List.take_append_of_le_length (by omega), tkh_cut m c c1]
      simp
    · rw [List.take_append, List.take_of_length_le (by omega)]
      simp only [tkh_put m hm, List.drop_left, if_true]
      by_cases hx : expE a = true
      · have hl0 : l = [] := hcs.elim (fun h => h.2) (fun h => absurd (hx.symm.trans h.1) (by simp))
        subst hl0
        rw [if_pos hx] at hc
        simp only [hx, if_true]
        rw [textD_cut (lst t) _ (by rw [lst_length]; exact ht) (by omega)]
        simp
      · have hr := hcs.resolve_left (fun h => hx h.1)
        have hx := hr.1
        have ht0 := hr.2.2.1
        have hl := hr.2.2.2.1
        have hall := hr.2.2.2.2
        rw [if_neg (by simp [hx])] at hc
        simp only [hx, Bool.false_eq_true, if_false, ← hl]
        rw [argsD_cut l _ hall (by omega)]
        simp
theorem decS_back (u : List UInt8) (h : (decS u).2.2 = 0) : mayE (decS u).1.f0 (decS u).1.f1 (decS u).1.f2 (decS u).1.f3 = true ∧ encE (decS u).1 = u.take (decS u).2.1 ∧ (decS u).2.1 ≤ u.length ∧ 1 ≤ (decS u).2.1 ∧ (decS u).1.f3.size < 4611686018427387904 := by
  suffices h' : mayE (decS u).1.f0 (decS u).1.f1 (decS u).1.f2 (decS u).1.f3 = true ∧ encL (decS u).1.f0 (decS u).1.f1 (decS u).1.f2 (lst (decS u).1.f3) = u.take (decS u).2.1 ∧ (decS u).2.1 ≤ u.length ∧ 1 ≤ (decS u).2.1 ∧ (decS u).1.f3.size < 4611686018427387904 by
    refine ⟨h'.1, ?_, h'.2.2⟩
    unfold encE
    rw [if_pos h'.1]
    exact h'.2.1
  cases u with
  | nil => simp [decS] at h
  | cons c u =>
    rw [decS_cons] at h ⊢
    unfold decC at h ⊢
    by_cases hk : Kind.knownB c.toNat = true ∨ expE c.toNat = true
    · rw [if_pos hk] at h ⊢
      by_cases h1 : (tkh u).2.2 = 0
      · rw [if_pos h1] at h ⊢
        obtain ⟨b1, b2, b3, b4, b5, b6⟩ := tkh_back u h1
        have hf : fitsE ((tkh u).1 : Int) = true := (fitsE_iff _).2 (by omega)
        have hcc : UInt8.ofNat ((c.toNat : Int)).toNat = c := by simp
        by_cases hx : expE c.toNat = true
        · rw [if_pos hx] at h ⊢
          by_cases h2 : (textD (u.drop (tkh u).2.1)).2.2 = 0
          · rw [if_pos h2]
            obtain ⟨t1, t2, t3⟩ := textD_back _ h2
            rw [List.length_drop] at t3
            refine ⟨(mayE_iff ..).2 ⟨hf, .inl ⟨hx, rfl⟩⟩, ?_, by simp only [List.length_cons]; omega, by simp only; omega, by simp only [size_arr]; exact t1⟩
            simp only [encL, hcc, hx, if_true, lst_arr, b1, t2]
            rw [show 1 + (tkh u).2.1 + (textD (u.drop (tkh u).2.1)).2.1 = ((tkh u).2.1 + (textD (u.drop (tkh u).2.1)).2.1) + 1 by omega, List.take_succ_cons, List.take_add]
          · rw [if_neg h2] at h
            exact absurd h h2
        · have hx' : expE c.toNat = false := by simpa using hx
          rw [if_neg hx] at h ⊢
          by_cases h2 : (argsD (Kind.argsL c.toNat).length (u.drop (tkh u).2.1)).2.2 = 0
          · rw [if_pos h2]
            obtain ⟨t0, t1, t2, t3⟩ := argsD_back _ _ h2
            rw [List.length_drop] at t3
            refine ⟨(mayE_iff ..).2 ⟨hf, .inr ⟨hx', hk.resolve_right hx, rfl, t0, t1⟩⟩, ?_, by simp only [List.length_cons]; omega, by simp only; omega, by show (0 : Nat) < _; omega⟩
            simp only [encL, hcc, hx', Bool.false_eq_true, if_false, b1, t2]
            rw [show 1 + (tkh u).2.1 + (argsD (Kind.argsL c.toNat).length (u.drop (tkh u).2.1)).2.1 = ((tkh u).2.1 + (argsD (Kind.argsL c.toNat).length (u.drop (tkh u).2.1)).2.1) + 1 by omega, List.take_succ_cons, List.take_add]
          · rw [if_neg h2] at h
            exact absurd h h2
      · rw [if_neg h1] at h
        exact absurd h h1
    · rw [if_neg hk] at h
      simp at h
theorem decS_errs (u : List UInt8) : (decS u).2.2 = 0 ∨ decS u = (zE, 0, 10) ∨ decS u = (zE, 0, 11) ∨ decS u = (zE, 0, 30) := by
  cases u with
  | nil => exact .inr (.inl rfl)
  | cons c u =>
    rw [decS_cons]
    unfold decC
    by_cases hk : Kind.knownB c.toNat = true ∨ expE c.toNat = true
    · rw [if_pos hk]
      by_cases h1 : (tkh u).2.2 = 0
      · rw [if_pos h1]
        by_cases hx : expE c.toNat = true
        · rw [if_pos hx]
          by_cases h2 : (textD (u.drop (tkh u).2.1)).2.2 = 0
          · rw [if_pos h2]; exact .inl rfl
          · rw [if_neg h2]
            rcases textD_errs (u.drop (tkh u).2.1) with h | h | h
            · exact absurd h h2
            · rw [h]; exact .inr (.inl rfl)
            · rw [h]; exact .inr (.inr (.inl rfl))
        · rw [if_neg hx]
          by_cases h2 : (argsD (Kind.argsL c.toNat).length (u.drop (tkh u).2.1)).2.2 = 0
          · rw [if_pos h2]; exact .inl rfl
          · rw [if_neg h2]
            rcases argsD_errs (Kind.argsL c.toNat).length (u.drop (tkh u).2.1) with h | h | h
            · exact absurd h h2
            · rw [h]; exact .inr (.inl rfl)
            · rw [h]; exact .inr (.inr (.inl rfl))
      · rw [if_neg h1]
        rcases tkh_errs u with h | h | h
        · exact absurd h h1
        · rw [h]; exact .inr (.inl rfl)
        · rw [h]; exact .inr (.inr (.inl rfl))
    · rw [if_neg hk]; exact .inr (.inr (.inr rfl))
end Go.Proofs.Ythechcflnkofgaa.EvA
