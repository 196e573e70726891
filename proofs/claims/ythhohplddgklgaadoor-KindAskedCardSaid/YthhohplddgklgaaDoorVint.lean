/- Numbers of variable length as plain lists of bytes: what is put, what is taken, and that each undoes the other. No condition: plain lists and numbers alone, no program in sight. -/
import Derived.Test.YthhohplddgklgaaDoorWMore
namespace ShCore
open Go Go.RowKit Go.Proofs.YthhohplddgklgaaDoorW.PrintWords Go.Proofs.YthhohplddgklgaaDoorW.PrintMore

theorem evYes {α : Type} {c : Prop} [Decidable c] {g f : Nat → Option α} {r : α} (h : c) (k : Ev g r) : Ev (fun n => if c then g n else f n) r := by simpa only [if_pos h] using k
theorem evNo {α : Type} {c : Prop} [Decidable c] {g f : Nat → Option α} {r : α} (h : ¬ c) (k : Ev f r) : Ev (fun n => if c then g n else f n) r := by simpa only [if_neg h] using k
theorem evC {α : Type} {x : Option α} {a : α} (h : x = some a) : Ev (fun _ => x) a := ⟨0, fun _ _ => h⟩

/-! ### bytes -/
abbrev lst (s : ByteArray) : List UInt8 := s.data.toList
def arr (l : List UInt8) : ByteArray := ⟨l.toArray⟩
@[simp] theorem lst_arr (l : List UInt8) : lst (arr l) = l := by simp [lst, arr]
@[simp] theorem arr_lst (s : ByteArray) : arr (lst s) = s := by simp [lst, arr]
theorem lst_length (s : ByteArray) : (lst s).length = s.size := by rw [Array.length_toList]; rfl
theorem size_arr (l : List UInt8) : (arr l).size = l.length := by rw [← lst_length, lst_arr]
theorem lst_inj {a b : ByteArray} (h : lst a = lst b) : a = b := by rw [← arr_lst a, h, arr_lst]
theorem arr_inj {a b : List UInt8} (h : arr a = arr b) : a = b := by rw [← lst_arr a, h, lst_arr]
theorem toList_lst (s : ByteArray) : s.toList = lst s := ByteArray.toList_eq s
theorem lst_append (a b : ByteArray) : lst (a ++ b) = lst a ++ lst b := ByteArray.toList_data_append
theorem arr_append (a b : List UInt8) : arr a ++ arr b = arr (a ++ b) := lst_inj (by rw [lst_append]; simp)
theorem lst_extract (s : ByteArray) (i j : Nat) : lst (s.extract i j) = ((lst s).drop i).take (j - i) := by
  simp [lst, ByteArray.data_extract, List.extract_eq_take_drop]
theorem drop_bt (s : ByteArray) (i : Nat) (h : i < s.size) : ∃ c : UInt8, (lst s).drop i = c :: (lst s).drop (i + 1) ∧ bt s i = c.toNat := by
  have h' : i < (lst s).length := by rw [lst_length]; exact h
  refine ⟨(lst s)[i], List.drop_eq_getElem_cons h', ?_⟩
  unfold bt
  rw [dif_pos (by simpa using h)]
  rfl
theorem u8_ofNat (n : Nat) (h : n < 256) : (UInt8.ofNat n).toNat = n := by simp; omega
theorem u8_lt (c : UInt8) : c.toNat < 256 := c.toNat_lt
theorem u8_ext {a b : UInt8} (h : a.toNat = b.toNat) : a = b := UInt8.toNat_inj.1 h

/-! ### what is put -/
def putF : Nat → Nat → List UInt8
  | 0, n => [UInt8.ofNat n]
  | f + 1, n => if n < 128 then [UInt8.ofNat n] else UInt8.ofNat (128 + n % 128) :: putF f (n / 128)
def put (n : Int) : List UInt8 := if n < 0 ∨ n ≥ 4611686018427387904 then [] else putF 8 n.toNat
/-- What is taken: the value, how many bytes, the error (10 too short, 11 too long). -/
def tk : Nat → Bool → List UInt8 → Nat × Nat × Nat
  | 0, _, _ => (0, 0, 11)
  | _ + 1, _, [] => (0, 0, 10)
  | m + 1, first, c :: l =>
    if 128 ≤ c.toNat then (if (tk m false l).2.2 = 0 then (c.toNat - 128 + 128 * (tk m false l).1, (tk m false l).2.1 + 1, 0) else (0, 0, (tk m false l).2.2))
    else if c.toNat = 0 ∧ first = false then (0, 0, 11) else (c.toNat, 1, 0)
/-- What is taken of a whole text at its begin: the value, how many bytes, the error. -/
def tkh (l : List UInt8) : Nat × Nat × Nat := if (tk 9 true l).2.2 = 0 then (if (tk 9 true l).1 ≥ 4611686018427387904 then (0, 0, 11) else tk 9 true l) else (0, 0, (tk 9 true l).2.2)
def takeL (l : List UInt8) (p : Int) : Int × Int × Int :=
  if p < 0 ∨ p > l.length then (0, 0, 1)
  else if (tkh (l.drop p.toNat)).2.2 = 0 then ((tkh (l.drop p.toNat)).1, p + (tkh (l.drop p.toNat)).2.1, 0) else (0, 0, (tkh (l.drop p.toNat)).2.2)

theorem putF_ne (f n : Nat) : putF f n ≠ [] := by cases f <;> simp [putF]; split <;> simp
theorem putF_len (f n : Nat) : 1 ≤ (putF f n).length ∧ (putF f n).length ≤ f + 1 := by
  induction f generalizing n with
  | zero => simp [putF]
  | succ f ih => simp only [putF]; split
                 · simp
                 · have := ih (n / 128); simp; omega
theorem tk_err (m : Nat) : ∀ (first : Bool) (l : List UInt8), (tk m first l).2.2 = 0 ∨ (tk m first l = (0, 0, 10)) ∨ tk m first l = (0, 0, 11) := by
  induction m with
  | zero => intro _ _; exact .inr (.inr rfl)
  | succ m ih =>
    intro first l
    cases l with
    | nil => exact .inr (.inl rfl)
    | cons c l =>
      simp only [tk]
      split
      · rcases ih false l with h | h | h
        · simp [h]
        · simp [h]
        · simp [h]
      · split
        · exact .inr (.inr rfl)
        · exact .inl rfl
/-- What was put is taken, whatever stands behind. -/
theorem tk_put (f : Nat) : ∀ (n : Nat) (first : Bool) (rest : List UInt8), n < 128 ^ (f + 1) → (n ≠ 0 ∨ first = true) → ∀ m, f < m → tk m first (putF f n ++ rest) = (n, (putF f n).length, 0) := by
  induction f with
  | zero =>
    intro n first rest hn hf m hm
    obtain ⟨m, rfl⟩ : ∃ q, m = q + 1 := ⟨m - 1, by omega⟩
    have h1 : n < 128 := by simpa using hn
    have h2 := u8_ofNat n (by omega)
    simp only [putF, List.cons_append, tk, h2]
    rw [if_neg (by omega), if_neg]
    · simp
    · rintro ⟨h, h'⟩; rcases hf with hf | hf
      · exact hf h
      · rw [hf] at h'; cases h'
  | succ f ih =>
    intro n first rest hn hf m hm
    obtain ⟨m, rfl⟩ : ∃ q, m = q + 1 := ⟨m - 1, by omega⟩
    by_cases h1 : n < 128
    · have h2 := u8_ofNat n (by omega)
      simp only [putF, if_pos h1, List.cons_append, tk, h2]
      rw [if_neg (by omega), if_neg]
      · simp
      · rintro ⟨h, h'⟩; rcases hf with hf | hf
        · exact hf h
        · rw [hf] at h'; cases h'
    · have h2 := u8_ofNat (128 + n % 128) (by omega)
      have h3 : n / 128 < 128 ^ (f + 1) := by rw [Nat.pow_succ] at hn; exact Nat.div_lt_of_lt_mul (by rw [Nat.mul_comm]; exact hn)
      have h4 := ih (n / 128) false rest h3 (.inl (by omega)) m (by omega)
      simp only [putF, if_neg h1, List.cons_append, tk, h2, h4]
      rw [if_pos (by omega)]
      simp
      omega
/-- Cut off ahead of its end it is too short. -/
theorem tk_cut (f : Nat) : ∀ (n : Nat) (first : Bool) (c : Nat), c < (putF f n).length → ∀ m, f < m → tk m first ((putF f n).take c) = (0, 0, 10) := by
  induction f with
  | zero =>
    intro n first c hc m hm
    obtain ⟨m, rfl⟩ : ∃ q, m = q + 1 := ⟨m - 1, by omega⟩
    obtain rfl : c = 0 := by simp [putF] at hc; omega
    simp [tk]
  | succ f ih =>
    intro n first c hc m hm
    obtain ⟨m, rfl⟩ : ∃ q, m = q + 1 := ⟨m - 1, by omega⟩
    cases c with
    | zero => simp [tk]
    | succ c =>
      by_cases h1 : n < 128
      · simp only [putF, if_pos h1, List.length_singleton] at hc; omega
      · have h2 := u8_ofNat (128 + n % 128) (by omega)
        simp only [putF, if_neg h1, List.length_cons] at hc
        have h4 := ih (n / 128) false c (by omega) m (by omega)
        simp only [putF, if_neg h1, List.take_succ_cons, tk, h2, h4]
        rw [if_pos (by omega)]
        simp
/-- What is taken stood there as it is put. -/
theorem tk_back (m : Nat) : ∀ (first : Bool) (l : List UInt8), (tk m first l).2.2 = 0 → ∀ f, m ≤ f + 1 → l.take (tk m first l).2.1 = putF f (tk m first l).1 ∧ (tk m first l).1 < 128 ^ m ∧ (tk m first l).2.1 ≤ l.length ∧ 1 ≤ (tk m first l).2.1 ∧ (tk m first l).2.1 ≤ m ∧ ((tk m first l).1 ≠ 0 ∨ first = true) := by
  induction m with
  | zero => intro first l h; simp [tk] at h
  | succ m ih =>
    intro first l h f hf
    cases l with
    | nil => simp [tk] at h
    | cons c l =>
      simp only [tk] at h ⊢
      by_cases h1 : 128 ≤ c.toNat
      · rw [if_pos h1] at h ⊢
        by_cases h2 : (tk m false l).2.2 = 0
        · obtain ⟨m', rfl⟩ : ∃ q, m = q + 1 := by cases m with
            | zero => simp [tk] at h2
            | succ q => exact ⟨q, rfl⟩
          obtain ⟨f, rfl⟩ : ∃ q, f = q + 1 := ⟨f - 1, by omega⟩
          obtain ⟨i1, i2, i3, i4, i5, i6⟩ := ih false l h2 f (by omega)
          rw [if_pos h2]
          have hc := u8_lt c
          have h5 : (tk (m' + 1) false l).1 ≠ 0 := by rcases i6 with i6 | i6; exact i6; cases i6
          generalize tk (m' + 1) false l = r at *
          refine ⟨?_, ?_, by simp; omega, by simp, by simp; omega, .inl (by simp; omega)⟩
          · simp only [List.take_succ_cons, putF]
            rw [if_neg (by omega), i1]
            congr 1
            · apply u8_ext; rw [u8_ofNat _ (by omega)]; omega
            · congr 1; omega
          · rw [Nat.pow_succ]; simp only; omega
        · rw [if_neg h2] at h; exact absurd h h2
      · rw [if_neg h1] at h ⊢
        by_cases h2 : c.toNat = 0 ∧ first = false
        · rw [if_pos h2] at h; simp at h
        · rw [if_neg h2]
          refine ⟨?_, ?_, by simp, by simp, by simp, ?_⟩
          · have : [c] = [UInt8.ofNat c.toNat] := by congr 1; apply u8_ext; rw [u8_ofNat _ (u8_lt c)]
            cases f with
            | zero => simp [putF]
            | succ f => simp only [putF, List.take_succ_cons, List.take_zero]; rw [if_pos (by omega)]; exact this
          · have := Nat.one_le_pow m 128 (by omega); rw [Nat.pow_succ]; simp only; omega
          · simp only
            by_cases h3 : c.toNat = 0
            · right; cases first with
              | true => rfl
              | false => exact absurd ⟨h3, rfl⟩ h2
            · exact .inl h3
/-- Only continuing bytes: too short, or too long from m on. -/
theorem tk_more (m : Nat) : ∀ (first : Bool) (l : List UInt8), (∀ c ∈ l.take m, 128 ≤ c.toNat) → tk m first l = if l.length < m then (0, 0, 10) else (0, 0, 11) := by
  induction m with
  | zero => intro first l _; simp [tk]
  | succ m ih =>
    intro first l h
    cases l with
    | nil => simp [tk]
    | cons c l =>
      have h1 := h c (by simp)
      have h2 := ih false l (fun d hd => h d (by simp [hd]))
      simp only [tk, h2, List.length_cons]
      rw [if_pos h1]
      by_cases h3 : l.length < m
      · simp only [if_pos h3, if_pos (show l.length + 1 < m + 1 by omega)]; rfl
      · simp only [if_neg h3, if_neg (show ¬ l.length + 1 < m + 1 by omega)]; rfl
/-! ### the machine's arithmetic -/
theorem wraps_i64' (n : Int) (h₀ : 0 ≤ n) (h₁ : n < 2 ^ 63) : IntKind.i64.wrap n = n := by rw [IntKind.wrap_i64]; omega
theorem and127 (x : Int) (h0 : 0 ≤ x) (h1 : x < 2 ^ 63) : Go.bits .and .i64 x 127 = x % 128 := bits_mask .i64 63 (by decide) wraps_i64' 7 (by decide) x h0 h1
theorem bits_or_comm (k : IntKind) (x y : Int) : Go.bits .or k x y = Go.bits .or k y x := by simp [Go.bits, BitVec.or_comm]
theorem or_128 (y : Int) (h0 : 0 ≤ y) (h1 : y < 128) : Go.bits .or .i64 y 128 = 128 + y := by
  rw [bits_or_comm]
  exact bits_join .i64 63 (by decide) wraps_i64' 7 128 y (by decide) (by decide) (by decide) h0 h1 (by omega)
theorem put_byte (n : Nat) (h : n < 9223372036854775808) : (Go.bits .or .i64 (Go.bits .and .i64 (n : Int) 127) 128) % 256 = ((UInt8.ofNat (128 + n % 128)).toNat : Int) := by
  rw [and127 _ (by omega) (by omega), or_128 _ (by omega) (by omega), u8_ofNat _ (by omega)]
  omega
theorem and_byte (c : UInt8) : Go.bits .and .i64 (c.toNat : Int) 127 = ((c.toNat % 128 : Nat) : Int) := by
  have := u8_lt c
  rw [and127 _ (by omega) (by omega)]
  omega
theorem last_byte (n : Nat) (h : n < 128) : (n : Int) % 256 = ((UInt8.ofNat n).toNat : Int) := by rw [u8_ofNat _ (by omega)]; omega
theorem pow128 (i : Nat) : (2 : Nat) ^ (7 * i) = 128 ^ i := by rw [Nat.pow_mul]
theorem pow128_le {i : Nat} (hi : i ≤ 8) : (128 : Nat) ^ i ≤ 72057594037927936 := by
  have := Nat.pow_le_pow_right (n := 128) (by omega) hi
  simpa using this
theorem shl7 (i c : Nat) (hi : i ≤ 8) (hc : c < 128) : shl .i64 (c : Int) (7 * (i : Int)) = ((c * 128 ^ i : Nat) : Int) := by
  unfold shl
  have h1 : min (7 * (i : Int)).toNat IntKind.i64.bits = 7 * i := by
    have : IntKind.i64.bits = 64 := rfl
    rw [this]; omega
  have h2 : (2 : Int) ^ (7 * i) = ((128 ^ i : Nat) : Int) := by rw [← pow128]; simp
  rw [h1, h2]
  have h3 := pow128_le hi
  have h4 : c * 128 ^ i ≤ 127 * 72057594037927936 := Nat.mul_le_mul (by omega) h3
  rw [show (c : Int) * ((128 ^ i : Nat) : Int) = ((c * 128 ^ i : Nat) : Int) by simp]
  exact wraps_i64' _ (by omega) (by omega)
theorem or_shl (i acc c : Nat) (hi : i ≤ 8) (ha : acc < 128 ^ i) (hc : c < 128) : Go.bits .or .i64 (acc : Int) (shl .i64 (c : Int) (7 * (i : Int))) = ((acc + c * 128 ^ i : Nat) : Int) := by
  rw [shl7 i c hi hc, bits_or_comm]
  have h3 := pow128_le hi
  have h4 : c * 128 ^ i ≤ 127 * 72057594037927936 := Nat.mul_le_mul (by omega) h3
  have h5 : ((128 ^ i : Nat) : Int) = 2 ^ (7 * i) := by rw [← pow128]; simp
  rw [bits_join .i64 63 (by decide) wraps_i64' (7 * i) ((c * 128 ^ i : Nat) : Int) (acc : Int) (by omega) ?_ (by omega) (by omega) (by rw [← h5]; exact_mod_cast ha) (by omega)]
  · omega
  · rw [← h5]
    have : (c * 128 ^ i) % 128 ^ i = 0 := Nat.mul_mod_left _ _
    exact_mod_cast this
theorem tdiv128 (n : Nat) : Int.tdiv (n : Int) 128 = ((n / 128 : Nat) : Int) := by rw [Int.tdiv_eq_ediv_of_nonneg (by omega)]; omega
theorem tmod128 (n : Nat) : Int.tmod (n : Int) 128 = ((n % 128 : Nat) : Int) := by rw [Int.tmod_eq_emod_of_nonneg (by omega)]; omega
theorem strOfNums_bytes (l : List UInt8) : strOfNums (l.map fun c => (c.toNat : Int)) = arr l := by
  apply lst_inj
  simp only [strOfNums, lst, arr, List.map_map]
  rw [List.map_congr_left (g := id) (fun c _ => by simp)]
  simp

/-! ### another way to take: count, add, put again -/
def lead : List UInt8 → Nat
  | [] => 0
  | c :: l => if 128 ≤ c.toNat then lead l + 1 else 0
def sumF : List UInt8 → Nat
  | [] => 0
  | c :: l => c.toNat % 128 + 128 * sumF l
theorem lead_le (l : List UInt8) : lead l ≤ l.length := by
  induction l with
  | nil => simp [lead]
  | cons c l ih => simp only [lead]; split <;> simp <;> omega
theorem lead_more (l : List UInt8) : ∀ m, m ≤ lead l → ∀ c ∈ l.take m, 128 ≤ c.toNat := by
  induction l with
  | nil => intro m _ c hc; simp at hc
  | cons d l ih =>
    intro m hm c hc
    cases m with
    | zero => simp at hc
    | succ m =>
      simp only [lead] at hm
      split at hm
      · rename_i h
        rcases List.mem_cons.1 (by simpa using hc) with rfl | h2
        · exact h
        · exact ih m (by omega) c h2
      · omega
theorem tk_lead (l : List UInt8) : ∀ (m : Nat) (first : Bool) (h : lead l < l.length), lead l < m → tk m first l = if (l[lead l]'h).toNat = 0 ∧ (0 < lead l ∨ first = false) then (0, 0, 11) else (sumF (l.take (lead l + 1)), lead l + 1, 0) := by
  induction l with
  | nil => intro m first h; simp [lead] at h
  | cons c l ih =>
    intro m first h hm
    obtain ⟨m, rfl⟩ : ∃ q, m = q + 1 := ⟨m - 1, by omega⟩
    by_cases h1 : 128 ≤ c.toNat
    · have e : lead (c :: l) = lead l + 1 := by simp [lead, h1]
      have h' : lead l < l.length := by rw [e] at h; simp at h; exact h
      have h2 := ih m false h' (by omega)
      simp only [e, List.getElem_cons_succ]
      simp only [tk, if_pos h1, h2]
      by_cases h3 : (l[lead l]'h').toNat = 0
      · simp [h3]
      · simp only [h3, false_and, if_false, if_true, List.take_succ_cons, sumF]
        have := u8_lt c
        refine Prod.ext (by simp only; omega) rfl
    · have e : lead (c :: l) = 0 := by simp [lead, h1]
      simp only [e, List.getElem_cons_zero]
      simp only [tk, if_neg h1]
      have h5 : c.toNat % 128 = c.toNat := by omega
      simp [sumF, h5]
theorem lead_take (l : List UInt8) (h : lead l < l.length) : lead (l.take (lead l + 1)) = lead l := by
  induction l with
  | nil => simp [lead] at h
  | cons c l ih =>
    by_cases h1 : 128 ≤ c.toNat
    · have e : lead (c :: l) = lead l + 1 := by simp [lead, h1]
      have h' : lead l < l.length := by rw [e] at h; simp at h; exact h
      rw [e, List.take_succ_cons]
      simp only [lead, if_pos h1, ih h']
    · have e : lead (c :: l) = 0 := by simp [lead, h1]
      simp [lead, h1]
theorem sumF_lt (l : List UInt8) : sumF l < 128 ^ l.length := by
  induction l with
  | nil => simp [sumF]
  | cons c l ih => simp only [sumF, List.length_cons, Nat.pow_succ]; omega
theorem put_nat (n : Nat) (h : n < 4611686018427387904) : put (n : Int) = putF 8 n := by unfold put; rw [if_neg (by omega)]; simp
theorem put_big (n : Int) (h : 4611686018427387904 ≤ n) : put n = [] := by unfold put; rw [if_pos (by omega)]
theorem tkh_lead (l : List UInt8) (h : lead l < l.length) (h8 : lead l ≤ 8) : tkh l = if put (sumF (l.take (lead l + 1)) : Nat) = l.take (lead l + 1) then (sumF (l.take (lead l + 1)), lead l + 1, 0) else (0, 0, 11) := by
  have h1 := tk_lead l 9 true h (by omega)
  have hne : l.take (lead l + 1) ≠ [] := by
    intro e
    have := congrArg List.length e
    rw [List.length_take, List.length_nil] at this
    omega
  by_cases hz : (l[lead l]'h).toNat = 0 ∧ (0 < lead l ∨ true = false)
  · rw [if_pos hz] at h1
    have e1 : tkh l = (0, 0, 11) := by simp [tkh, h1]
    rw [e1, if_neg]
    intro e
    by_cases hb : sumF (l.take (lead l + 1)) < 4611686018427387904
    · rw [put_nat _ hb] at e
      have h2 := tk_put 8 (sumF (l.take (lead l + 1))) true [] (by omega) (.inr rfl) 9 (by omega)
      rw [List.append_nil, e] at h2
      have h3 := tk_lead (l.take (lead l + 1)) 9 true (by rw [lead_take l h]; simp; omega) (by rw [lead_take l h]; omega)
      have h4 : ((l.take (lead l + 1))[lead (l.take (lead l + 1))]'(by rw [lead_take l h]; simp; omega)) = l[lead l]'h := by
        simp [lead_take l h]
      rw [h4, lead_take l h, if_pos hz, h2] at h3
      simp at h3
    · rw [put_big _ (by omega)] at e
      exact hne e.symm
  · rw [if_neg hz] at h1
    have h2 := tk_back 9 true l (by rw [h1]) 8 (by omega)
    rw [h1] at h2
    simp only at h2
    by_cases hb : sumF (l.take (lead l + 1)) < 4611686018427387904
    · rw [put_nat _ hb, if_pos h2.1.symm]
      simp only [tkh, h1, if_true]
      rw [if_neg (by omega)]
    · rw [put_big _ (by omega), if_neg (fun e => hne e.symm)]
      simp only [tkh, h1, if_true]
      rw [if_pos (by omega)]
theorem tkh_more (l : List UInt8) (h : lead l = l.length ∨ 9 ≤ lead l) : tkh l = if l.length < 9 then (0, 0, 10) else (0, 0, 11) := by
  have h1 := tk_more 9 true l (by
    rcases h with h | h
    · intro c hc
      refine lead_more l (lead l) (Nat.le_refl _) c ?_
      rw [h, List.take_of_length_le (Nat.le_refl _)]
      exact List.mem_of_mem_take hc
    · exact lead_more l 9 h)
  unfold tkh
  rw [h1]
  split <;> simp
theorem wrap64_of {x : Int} (h0 : -9223372036854775808 ≤ x) (h1 : x < 9223372036854775808) : wrap64 x = x := by unfold wrap64; omega
theorem wrap64_nat' {x : Int} {n : Nat} (h : x = n) (h1 : x < 9223372036854775808) : wrap64 x = (n : Int) := by rw [wrap64_of (by omega) h1, h]
/-- What the rest of a take comes to, from place i of the number on, of weight U there. -/
def fin0 (p i acc U : Nat) (r : Nat × Nat × Nat) : Int × Int × Int :=
  if r.2.2 = 0 then (if acc + r.1 * U ≥ 4611686018427387904 then (0, 0, 11) else (((acc + r.1 * U : Nat) : Int), ((p + i + r.2.1 : Nat) : Int), 0)) else (0, 0, r.2.2)
def fin (p i acc : Nat) (r : Nat × Nat × Nat) : Int × Int × Int := fin0 p i acc (128 ^ i) r
theorem fin_succ (p i a : Nat) (r : Nat × Nat × Nat) : fin p (i + 1) a r = fin0 p (i + 1) a (128 ^ i * 128) r := by unfold fin; rw [Nat.pow_succ]
theorem fin_now (p i a : Nat) (r : Nat × Nat × Nat) : fin p i a r = fin0 p i a (128 ^ i) r := by unfold fin; rfl
theorem fin0_err (p i acc U : Nat) (r : Nat × Nat × Nat) (h : r.2.2 ≠ 0) : fin0 p i acc U r = (0, 0, (r.2.2 : Int)) := by unfold fin0; rw [if_neg h]
theorem fin0_next (p i acc U : Nat) (c : UInt8) (h : 128 ≤ c.toNat) (r : Nat × Nat × Nat) : fin0 p i acc U (if r.2.2 = 0 then (c.toNat - 128 + 128 * r.1, r.2.1 + 1, 0) else (0, 0, r.2.2)) = fin0 p (i + 1) (acc + c.toNat % 128 * U) (U * 128) r := by
  by_cases h3 : r.2.2 = 0
  · rw [if_pos h3]
    unfold fin0
    simp only [h3, if_true]
    have hc := u8_lt c
    have e9 : acc + (c.toNat - 128 + 128 * r.1) * U = acc + c.toNat % 128 * U + r.1 * (U * 128) := by
      rw [show c.toNat - 128 = c.toNat % 128 by omega, Nat.add_mul, ← Nat.add_assoc]
      congr 1
      rw [Nat.mul_comm 128 r.1, Nat.mul_assoc, Nat.mul_comm 128]
    rw [e9, show p + i + (r.2.1 + 1) = p + (i + 1) + r.2.1 by omega]
  · rw [if_neg h3, fin0_err _ _ _ _ r h3, fin0_err _ _ _ _ (0, 0, r.2.2) h3]
theorem fin_tkh (p : Nat) (l : List UInt8) : fin p 0 0 (tk 9 true l) = if (tkh l).2.2 = 0 then (((tkh l).1 : Int), (p : Int) + (tkh l).2.1, 0) else (0, 0, ((tkh l).2.2 : Int)) := by
  unfold fin fin0 tkh
  by_cases h : (tk 9 true l).2.2 = 0
  · simp only [h, if_true, Nat.pow_zero, Nat.mul_one, Nat.zero_add, Nat.add_zero]
    by_cases h2 : (tk 9 true l).1 ≥ 4611686018427387904
    · rw [if_pos h2, if_pos h2]; rfl
    · rw [if_neg h2, if_neg h2, if_pos h]
      simp
  · simp only [h, if_false]
theorem put_byte_sum (n : Nat) : (wrap64 (128 + ((n % 128 : Nat) : Int))) % 256 = ((UInt8.ofNat (128 + n % 128)).toNat : Int) := by
  rw [u8_ofNat _ (by omega), wrap64_of (by omega) (by omega)]
  omega
theorem wrap64_div (n : Nat) (h : n < 9223372036854775808) : wrap64 ((n / 128 : Nat) : Int) = ((n / 128 : Nat) : Int) := wrap64_of (by omega) (by omega)
/-! ### whole numbers, at the begin of a text and anywhere in it -/
theorem tkh_put (n : Nat) (h : n < 4611686018427387904) (rest : List UInt8) : tkh (putF 8 n ++ rest) = (n, (putF 8 n).length, 0) := by
  have h1 := tk_put 8 n true rest (by omega) (.inr rfl) 9 (by omega)
  unfold tkh
  rw [h1]
  simp only [if_true]
  rw [if_neg (by omega)]
theorem tkh_cut (n : Nat) (c : Nat) (hc : c < (putF 8 n).length) : tkh ((putF 8 n).take c) = (0, 0, 10) := by
  have h1 := tk_cut 8 n true c hc 9 (by omega)
  unfold tkh
  rw [h1]
  simp
theorem tkh_back (l : List UInt8) (h : (tkh l).2.2 = 0) : put ((tkh l).1 : Nat) = l.take (tkh l).2.1 ∧ putF 8 (tkh l).1 = l.take (tkh l).2.1 ∧ (tkh l).1 < 4611686018427387904 ∧ (tkh l).2.1 ≤ l.length ∧ 1 ≤ (tkh l).2.1 ∧ (tkh l).2.1 ≤ 9 := by
  unfold tkh at h ⊢
  by_cases h1 : (tk 9 true l).2.2 = 0
  · rw [if_pos h1] at h ⊢
    by_cases h2 : (tk 9 true l).1 ≥ 4611686018427387904
    · rw [if_pos h2] at h; simp at h
    · rw [if_neg h2]
      have h3 := tk_back 9 true l h1 8 (by omega)
      refine ⟨?_, h3.1.symm, by omega, h3.2.2.1, h3.2.2.2.1, h3.2.2.2.2.1⟩
      rw [put_nat _ (by omega), h3.1]
  · rw [if_neg h1] at h; exact absurd h h1
theorem tkh_err (l : List UInt8) : (tkh l).2.2 = 0 ∨ tkh l = (0, 0, 10) ∨ tkh l = (0, 0, 11) := by
  unfold tkh
  rcases tk_err 9 true l with h | h | h
  · rw [if_pos h]
    split
    · exact .inr (.inr rfl)
    · exact .inl h
  · rw [h]; exact .inr (.inl rfl)
  · rw [h]; exact .inr (.inr rfl)
theorem put_ok {n : Int} (h : put n ≠ []) : ∃ m : Nat, n = m ∧ m < 4611686018427387904 ∧ put n = putF 8 m := by
  by_cases h0 : n < 0 ∨ n ≥ 4611686018427387904
  · exfalso; apply h; unfold put; rw [if_pos h0]
  · obtain ⟨m, rfl⟩ := Int.eq_ofNat_of_zero_le (show 0 ≤ n by omega)
    exact ⟨m, rfl, by omega, put_nat m (by omega)⟩
theorem put_nil {n : Int} (h : put n = []) : n < 0 ∨ n ≥ 4611686018427387904 := by
  by_cases h0 : n < 0 ∨ n ≥ 4611686018427387904
  · exact h0
  · exfalso
    unfold put at h
    rw [if_neg h0] at h
    exact putF_ne _ _ h
theorem put_len (n : Int) : (put n).length ≤ 9 := by
  unfold put
  split
  · simp
  · have := putF_len 8 n.toNat; omega
theorem takeL_put {n : Int} (h : put n ≠ []) (pre rest : List UInt8) : takeL (pre ++ put n ++ rest) pre.length = (n, (pre.length : Int) + ((put n).length : Int), (0 : Int)) := by
  obtain ⟨m, rfl, hm, e⟩ := put_ok h
  unfold takeL
  rw [if_neg (by simp; omega), Int.toNat_natCast, List.append_assoc, List.drop_left, e, tkh_put m hm]
  simp
theorem put_prefix {n m : Int} (h : put n ≠ []) (k : put m ≠ []) (e : (put m).take (put n).length = put n) : n = m := by
  have h1 := takeL_put k [] []
  have h2 := takeL_put h [] ((put m).drop (put n).length)
  have e2 : put n ++ (put m).drop (put n).length = put m := by
    conv => lhs; arg 1; rw [← e]
    exact List.take_append_drop _ _
  simp only [List.nil_append, List.append_nil, e2] at h1 h2
  rw [h1] at h2
  injection h2 with h2
  exact h2.symm
theorem takeL_back (l : List UInt8) (p : Int) (h : (takeL l p).2.2 = 0) : 0 ≤ p ∧ ∃ u : Nat, (takeL l p).2.1 = p + u ∧ 1 ≤ u ∧ u ≤ 9 ∧ p.toNat + u ≤ l.length ∧ put (takeL l p).1 = (l.drop p.toNat).take u := by
  unfold takeL at h ⊢
  by_cases h0 : p < 0 ∨ p > l.length
  · rw [if_pos h0] at h; simp at h
  · rw [if_neg h0] at h ⊢
    by_cases h1 : (tkh (l.drop p.toNat)).2.2 = 0
    · rw [if_pos h1]
      obtain ⟨b1, _, b2, b3, b4, b5⟩ := tkh_back _ h1
      rw [List.length_drop] at b3
      exact ⟨by omega, (tkh (l.drop p.toNat)).2.1, rfl, b4, b5, by omega, b1⟩
    · rw [if_neg h1] at h; simp at h; omega
/-- A larger number has no fewer bytes. -/
theorem putF_mono (f : Nat) : ∀ n m, n ≤ m → (putF f n).length ≤ (putF f m).length := by
  induction f with
  | zero => intro n m _; simp [putF]
  | succ f ih =>
    intro n m h
    simp only [putF]
    have := ih (n / 128) (m / 128) (by omega)
    have := (putF_len f (m / 128)).1
    split <;> split <;> simp <;> omega
/-- Each byte but the last one is 128 or more. -/
theorem putF_cont (f : Nat) : ∀ n, n < 128 ^ (f + 1) → ∀ i (h : i < (putF f n).length), 128 ≤ ((putF f n)[i]).toNat ↔ i + 1 < (putF f n).length := by
  induction f with
  | zero =>
    intro n hn i h
    have h1 : n < 128 := by simpa using hn
    have : i = 0 := by simp [putF] at h; exact h
    subst this
    simp [putF]
    omega
  | succ f ih =>
    intro n hn i h
    by_cases h1 : n < 128
    · have e : putF (f + 1) n = [UInt8.ofNat n] := by simp only [putF, if_pos h1]
      simp only [e, List.length_singleton] at h ⊢
      have : i = 0 := by omega
      subst this
      simp
      omega
    · have e : putF (f + 1) n = UInt8.ofNat (128 + n % 128) :: putF f (n / 128) := by simp only [putF, if_neg h1]
      simp only [e, List.length_cons] at h ⊢
      cases i with
      | zero =>
        have := (putF_len f (n / 128)).1
        have h2 := u8_ofNat (128 + n % 128) (by omega)
        simp only [List.getElem_cons_zero, h2]
        omega
      | succ i =>
        have h3 : n / 128 < 128 ^ (f + 1) := by rw [Nat.pow_succ] at hn; exact Nat.div_lt_of_lt_mul (by rw [Nat.mul_comm]; exact hn)
        have := ih (n / 128) h3 i (by omega)
        simp only [List.getElem_cons_succ]
        omega
theorem lead_replicate (c : UInt8) (h : 128 ≤ c.toNat) (n : Nat) : lead (List.replicate n c) = n := by
  induction n with
  | zero => rfl
  | succ n ih => simp only [List.replicate_succ, lead, if_pos h, ih]
theorem putF_eight (n : Nat) (h : n < 4611686018427387904) : (putF 9 n).length = (putF 8 n).length := by
  have h1 := tk_put 8 n true [] (by omega) (.inr rfl) 10 (by omega)
  have h2 := tk_put 9 n true [] (by omega) (.inr rfl) 10 (by omega)
  have h3 := tk_back 10 true (putF 8 n ++ []) (by rw [h1]) 9 (by omega)
  rw [h1] at h3
  have := congrArg List.length h3.1
  simp at this
  omega
end ShCore
