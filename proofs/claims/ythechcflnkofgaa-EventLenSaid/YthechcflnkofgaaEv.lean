/- Several texts of this seat, one behind the other (merged by a program of this session: merge.py). -/
import Derived.Test.YthechcflnkofgaaVw
import Derived.Test.YthechcflnkofgaaQx6
import Derived.Test.YthechcflnkofgaaQx2
import Derived.Test.YthechcflnkofgaaQx8
import Derived.Test.YthechcflnkofgaaQx1
import Derived.Test.YthechcflnkofgaaQx3
import Derived.Test.YthechcflnkofgaaQx5
import Derived.Test.YthechcflnkofgaaQx0
import Derived.Test.YthechcflnkofgaaKind
import Derived.Test.YthechcflnkofgaaQx4
import Derived.Test.YthechcflnkofgaaQx7
/- Numbers of variable length as plain lists of bytes: what is put, what is taken, and that each undoes the other. No condition: plain lists and numbers alone, no program in sight. -/
namespace ShCore
open Go Go.RowKit Go.Proofs.YthechcflnkofgaaW.PrintWords Go.Proofs.YthechcflnkofgaaW.PrintMore

theorem evYes {α : Type} {c : Prop} [Decidable c] {g f : Nat → Option α} {r : α} (h : c) (k : Ev g r) : Ev (fun n => if c then g n else f n) r := by simpa only [if_pos h] using k
theorem evNo {α : Type} {c : Prop} [Decidable c] {g f : Nat → Option α} {r : α} (h : ¬ c) (k : Ev f r) : Ev (fun n => if c then g n else f n) r := by simpa only [if_neg h] using k
theorem evC {α : Type} {x : Option α} {a : α} (h : x = some a) : Ev (fun _ => x) a := ⟨0, fun _ _ => h⟩

/-! ### bytes -/
abbrev lst (s : ByteArray) : List UInt8 := s.data.toList
def arr (l : List UInt8) : ByteArray := ⟨l.toArray⟩
@[simp] theorem lst_arr (l : List UInt8) : lst (arr l) = l := by simp [lst, arr]
@[simp] theorem arr_lst (s : ByteArray) : arr (lst s) = s := by simp [lst, arr]
theorem lst_length (s : ByteArray) : (lst s).length = s.size := by rw [Array.length_toList]; rfl
theorem size_arr (l : List UInt8) : (arr l).size = l.length := by rw [← lst_length, lst_arr]
theorem lst_inj {a b : ByteArray} (h : lst a = lst b) : a = b := by rw [← arr_lst a, h, arr_lst]
theorem arr_inj {a b : List UInt8} (h : arr a = arr b) : a = b := by rw [← lst_arr a, h, lst_arr]
theorem toList_lst (s : ByteArray) : s.toList = lst s := ByteArray.toList_eq s
theorem lst_append (a b : ByteArray) : lst (a ++ b) = lst a ++ lst b := ByteArray.toList_data_append
theorem arr_append (a b : List UInt8) : arr a ++ arr b = arr (a ++ b) := lst_inj (by rw [lst_append]; simp)
theorem lst_extract (s : ByteArray) (i j : Nat) : lst (s.extract i j) = ((lst s).drop i).take (j - i) := by
  simp [lst, ByteArray.data_extract, List.extract_eq_take_drop]
theorem drop_bt (s : ByteArray) (i : Nat) (h : i < s.size) : ∃ c : UInt8, (lst s).drop i = c :: (lst s).drop (i + 1) ∧ bt s i = c.toNat := by
  have h' : i < (lst s).length := by rw [lst_length]; exact h
  refine ⟨(lst s)[i], List.drop_eq_getElem_cons h', ?_⟩
  unfold bt
  rw [dif_pos (by simpa using h)]
  rfl
theorem u8_ofNat (n : Nat) (h : n < 256) : (UInt8.ofNat n).toNat = n := by simp; omega
theorem u8_lt (c : UInt8) : c.toNat < 256 := c.toNat_lt
theorem u8_ext {a b : UInt8} (h : a.toNat = b.toNat) : a = b := UInt8.toNat_inj.1 h

/-! ### what is put -/
def putF : Nat → Nat → List UInt8
  | 0, n => [UInt8.ofNat n]
  | f + 1, n => if n < 128 then [UInt8.ofNat n] else UInt8.ofNat (128 + n % 128) :: putF f (n / 128)
def put (n : Int) : List UInt8 := if n < 0 ∨ n ≥ 4611686018427387904 then [] else putF 8 n.toNat
/-- What is taken: the value, how many bytes, the error (10 too short, 11 too long). -/
def tk : Nat → Bool → List UInt8 → Nat × Nat × Nat
  | 0, _, _ => (0, 0, 11)
  | _ + 1, _, [] => (0, 0, 10)
  | m + 1, first, c :: l =>
    if 128 ≤ c.toNat then (if (tk m false l).2.2 = 0 then (c.toNat - 128 + 128 * (tk m false l).1, (tk m false l).2.1 + 1, 0) else (0, 0, (tk m false l).2.2))
    else if c.toNat = 0 ∧ first = false then (0, 0, 11) else (c.toNat, 1, 0)
/-- What is taken of a whole text at its begin: the value, how many bytes, the error. -/
def tkh (l : List UInt8) : Nat × Nat × Nat := if (tk 9 true l).2.2 = 0 then (if (tk 9 true l).1 ≥ 4611686018427387904 then (0, 0, 11) else tk 9 true l) else (0, 0, (tk 9 true l).2.2)
def takeL (l : List UInt8) (p : Int) : Int × Int × Int :=
  if p < 0 ∨ p > l.length then (0, 0, 1)
  else if (tkh (l.drop p.toNat)).2.2 = 0 then ((tkh (l.drop p.toNat)).1, p + (tkh (l.drop p.toNat)).2.1, 0) else (0, 0, (tkh (l.drop p.toNat)).2.2)

theorem putF_ne (f n : Nat) : putF f n ≠ [] := by cases f <;> simp [putF]; split <;> simp
theorem putF_len (f n : Nat) : 1 ≤ (putF f n).length ∧ (putF f n).length ≤ f + 1 := by
  induction f generalizing n with
  | zero => simp [putF]
  | succ f ih => simp only [putF]; split
                 · simp
                 · have := ih (n / 128); simp; omega
theorem tk_err (m : Nat) : ∀ (first : Bool) (l : List UInt8), (tk m first l).2.2 = 0 ∨ (tk m first l = (0, 0, 10)) ∨ tk m first l = (0, 0, 11) := by
  induction m with
  | zero => intro _ _; exact .inr (.inr rfl)
  | succ m ih =>
    intro first l
    cases l with
    | nil => exact .inr (.inl rfl)
    | cons c l =>
      simp only [tk]
      split
      · rcases ih false l with h | h | h
        · simp [h]
        · simp [h]
        · simp [h]
      · split
        · exact .inr (.inr rfl)
        · exact .inl rfl
/-- What was put is taken, whatever stands behind. -/
theorem tk_put (f : Nat) : ∀ (n : Nat) (first : Bool) (rest : List UInt8), n < 128 ^ (f + 1) → (n ≠ 0 ∨ first = true) → ∀ m, f < m → tk m first (putF f n ++ rest) = (n, (putF f n).length, 0) := by
  induction f with
  | zero =>
    intro n first rest hn hf m hm
    obtain ⟨m, rfl⟩ : ∃ q, m = q + 1 := ⟨m - 1, by omega⟩
    have h1 : n < 128 := by simpa using hn
    have h2 := u8_ofNat n (by omega)
    simp only [putF, List.cons_append, tk, h2]
    rw [if_neg (by omega), if_neg]
    · simp
    · rintro ⟨h, h'⟩; rcases hf with hf | hf
      · exact hf h
      · rw [hf] at h'; cases h'
  | succ f ih =>
    intro n first rest hn hf m hm
    obtain ⟨m, rfl⟩ : ∃ q, m = q + 1 := ⟨m - 1, by omega⟩
    by_cases h1 : n < 128
    · have h2 := u8_ofNat n (by omega)
      simp only [putF, if_pos h1, List.cons_append, tk, h2]
      rw [if_neg (by omega), if_neg]
      · simp
      · rintro ⟨h, h'⟩; rcases hf with hf | hf
        · exact hf h
        · rw [hf] at h'; cases h'
    · have h2 := u8_ofNat (128 + n % 128) (by omega)
      have h3 : n / 128 < 128 ^ (f + 1) := by rw [Nat.pow_succ] at hn; exact Nat.div_lt_of_lt_mul (by rw [Nat.mul_comm]; exact hn)
      have h4 := ih (n / 128) false rest h3 (.inl (by omega)) m (by omega)
      simp only [putF, if_neg h1, List.cons_append, tk, h2, h4]
      rw [if_pos (by omega)]
      simp
      omega
/-- Cut off ahead of its end it is too short. -/
theorem tk_cut (f : Nat) : ∀ (n : Nat) (first : Bool) (c : Nat), c < (putF f n).length → ∀ m, f < m → tk m first ((putF f n).take c) = (0, 0, 10) := by
  induction f with
  | zero =>
    intro n first c hc m hm
    obtain ⟨m, rfl⟩ : ∃ q, m = q + 1 := ⟨m - 1, by omega⟩
    obtain rfl : c = 0 := by simp [putF] at hc; omega
    simp [tk]
  | succ f ih =>
    intro n first c hc m hm
    obtain ⟨m, rfl⟩ : ∃ q, m = q + 1 := ⟨m - 1, by omega⟩
    cases c with
    | zero => simp [tk]
    | succ c =>
      by_cases h1 : n < 128
      · simp only [putF, if_pos h1, List.length_singleton] at hc; omega
      · have h2 := u8_ofNat (128 + n % 128) (by omega)
        simp only [putF, if_neg h1, List.length_cons] at hc
        have h4 := ih (n / 128) false c (by omega) m (by omega)
        simp only [putF, if_neg h1, List.take_succ_cons, tk, h2, h4]
        rw [if_pos (by omega)]
        simp
/-- What is taken stood there as it is put. -/
theorem tk_back (m : Nat) : ∀ (first : Bool) (l : List UInt8), (tk m first l).2.2 = 0 → ∀ f, m ≤ f + 1 → l.take (tk m first l).2.1 = putF f (tk m first l).1 ∧ (tk m first l).1 < 128 ^ m ∧ (tk m first l).2.1 ≤ l.length ∧ 1 ≤ (tk m first l).2.1 ∧ (tk m first l).2.1 ≤ m ∧ ((tk m first l).1 ≠ 0 ∨ first = true) := by
  induction m with
  | zero => intro first l h; simp [tk] at h
  | succ m ih =>
    intro first l h f hf
    cases l with
    | nil => simp [tk] at h
    | cons c l =>
      simp only [tk] at h ⊢
      by_cases h1 : 128 ≤ c.toNat
      · rw [if_pos h1] at h ⊢
        by_cases h2 : (tk m false l).2.2 = 0
        · obtain ⟨m', rfl⟩ : ∃ q, m = q + 1 := by cases m with
            | zero => simp [tk] at h2
            | succ q => exact ⟨q, rfl⟩
          obtain ⟨f, rfl⟩ : ∃ q, f = q + 1 := ⟨f - 1, by omega⟩
          obtain ⟨i1, i2, i3, i4, i5, i6⟩ := ih false l h2 f (by omega)
          rw [if_pos h2]
          have hc := u8_lt c
          have h5 : (tk (m' + 1) false l).1 ≠ 0 := by rcases i6 with i6 | i6; exact i6; cases i6
          generalize tk (m' + 1) false l = r at *
          refine ⟨?_, ?_, by simp; omega, by simp, by simp; omega, .inl (by simp; omega)⟩
          · simp only [List.take_succ_cons, putF]
            rw [if_neg (by omega), i1]
            congr 1
            · apply u8_ext; rw [u8_ofNat _ (by omega)]; omega
            · congr 1; omega
          · rw [Nat.pow_succ]; simp only; omega
        · rw [if_neg h2] at h; exact absurd h h2
      · rw [if_neg h1] at h ⊢
        by_cases h2 : c.toNat = 0 ∧ first = false
        · rw [if_pos h2] at h; simp at h
        · rw [if_neg h2]
          refine ⟨?_, ?_, by simp, by simp, by simp, ?_⟩
          · have : [c] = [UInt8.ofNat c.toNat] := by congr 1; apply u8_ext; rw [u8_ofNat _ (u8_lt c)]
            cases f with
            | zero => simp [putF]
            | succ f => simp only [putF, List.take_succ_cons, List.take_zero]; rw [if_pos (by omega)]; exact this
          · have := Nat.one_le_pow m 128 (by omega); rw [Nat.pow_succ]; simp only; omega
          · simp only
            by_cases h3 : c.toNat = 0
            · right; cases first with
              | true => rfl
              | false => exact absurd ⟨h3, rfl⟩ h2
            · exact .inl h3
/-- Only continuing bytes: too short, or too long from m on. -/
theorem tk_more (m : Nat) : ∀ (first : Bool) (l : List UInt8), (∀ c ∈ l.take m, 128 ≤ c.toNat) → tk m first l = if l.length < m then (0, 0, 10) else (0, 0, 11) := by
  induction m with
  | zero => intro first l _; simp [tk]
  | succ m ih =>
    intro first l h
    cases l with
    | nil => simp [tk]
    | cons c l =>
      have h1 := h c (by simp)
      have h2 := ih false l (fun d hd => h d (by simp [hd]))
      simp only [tk, h2, List.length_cons]
      rw [if_pos h1]
      by_cases h3 : l.length < m
      · simp only [if_pos h3, if_pos (show l.length + 1 < m + 1 by omega)]; rfl
      · simp only [if_neg h3, if_neg (show ¬ l.length + 1 < m + 1 by omega)]; rfl
/-! ### the machine's arithmetic -/
theorem wraps_i64' (n : Int) (h₀ : 0 ≤ n) (h₁ : n < 2 ^ 63) : IntKind.i64.wrap n = n := by rw [IntKind.wrap_i64]; omega
theorem and127 (x : Int) (h0 : 0 ≤ x) (h1 : x < 2 ^ 63) : Go.bits .and .i64 x 127 = x % 128 := bits_mask .i64 63 (by decide) wraps_i64' 7 (by decide) x h0 h1
theorem bits_or_comm (k : IntKind) (x y : Int) : Go.bits .or k x y = Go.bits .or k y x := by simp [Go.bits, BitVec.or_comm]
theorem or_128 (y : Int) (h0 : 0 ≤ y) (h1 : y < 128) : Go.bits .or .i64 y 128 = 128 + y := by
  rw [bits_or_comm]
  exact bits_join .i64 63 (by decide) wraps_i64' 7 128 y (by decide) (by decide) (by decide) h0 h1 (by omega)
theorem put_byte (n : Nat) (h : n < 9223372036854775808) : (Go.bits .or .i64 (Go.bits .and .i64 (n : Int) 127) 128) % 256 = ((UInt8.ofNat (128 + n % 128)).toNat : Int) := by
  rw [and127 _ (by omega) (by omega), or_128 _ (by omega) (by omega), u8_ofNat _ (by omega)]
  omega
theorem and_byte (c : UInt8) : Go.bits .and .i64 (c.toNat : Int) 127 = ((c.toNat % 128 : Nat) : Int) := by
  have := u8_lt c
  rw [and127 _ (by omega) (by omega)]
  omega
theorem last_byte (n : Nat) (h : n < 128) : (n : Int) % 256 = ((UInt8.ofNat n).toNat : Int) := by rw [u8_ofNat _ (by omega)]; omega
theorem pow128 (i : Nat) : (2 : Nat) ^ (7 * i) = 128 ^ i := by rw [Nat.pow_mul]
theorem pow128_le {i : Nat} (hi : i ≤ 8) : (128 : Nat) ^ i ≤ 72057594037927936 := by
  have := Nat.pow_le_pow_right (n := 128) (by omega) hi
  simpa using this
theorem shl7 (i c : Nat) (hi : i ≤ 8) (hc : c < 128) : shl .i64 (c : Int) (7 * (i : Int)) = ((c * 128 ^ i : Nat) : Int) := by
  unfold shl
  have h1 : min (7 * (i : Int)).toNat IntKind.i64.bits = 7 * i := by
    have : IntKind.i64.bits = 64 := rfl
    rw [this]; omega
  have h2 : (2 : Int) ^ (7 * i) = ((128 ^ i : Nat) : Int) := by rw [← pow128]; simp
  rw [h1, h2]
  have h3 := pow128_le hi
  have h4 : c * 128 ^ i ≤ 127 * 72057594037927936 := Nat.mul_le_mul (by omega) h3
  rw [show (c : Int) * ((128 ^ i : Nat) : Int) = ((c * 128 ^ i : Nat) : Int) by simp]
  exact wraps_i64' _ (by omega) (by omega)
theorem or_shl (i acc c : Nat) (hi : i ≤ 8) (ha : acc < 128 ^ i) (hc : c < 128) : Go.bits .or .i64 (acc : Int) (shl .i64 (c : Int) (7 * (i : Int))) = ((acc + c * 128 ^ i : Nat) : Int) := by
  rw [shl7 i c hi hc, bits_or_comm]
  have h3 := pow128_le hi
  have h4 : c * 128 ^ i ≤ 127 * 72057594037927936 := Nat.mul_le_mul (by omega) h3
  have h5 : ((128 ^ i : Nat) : Int) = 2 ^ (7 * i) := by rw [← pow128]; simp
  rw [bits_join .i64 63 (by decide) wraps_i64' (7 * i) ((c * 128 ^ i : Nat) : Int) (acc : Int) (by omega) ?_ (by omega) (by omega) (by rw [← h5]; exact_mod_cast ha) (by omega)]
  · omega
  · rw [← h5]
    have : (c * 128 ^ i) % 128 ^ i = 0 := Nat.mul_mod_left _ _
    exact_mod_cast this
theorem tdiv128 (n : Nat) : Int.tdiv (n : Int) 128 = ((n / 128 : Nat) : Int) := by rw [Int.tdiv_eq_ediv_of_nonneg (by omega)]; omega
theorem tmod128 (n : Nat) : Int.tmod (n : Int) 128 = ((n % 128 : Nat) : Int) := by rw [Int.tmod_eq_emod_of_nonneg (by omega)]; omega
theorem strOfNums_bytes (l : List UInt8) : strOfNums (l.map fun c => (c.toNat : Int)) = arr l := by
  apply lst_inj
  simp only [strOfNums, lst, arr, List.map_map]
  rw [List.map_congr_left (g := id) (fun c _ => by simp)]
  simp

/-! ### another way to take: count, add, put again -/
def lead : List UInt8 → Nat
  | [] => 0
  | c :: l => if 128 ≤ c.toNat then lead l + 1 else 0
def sumF : List UInt8 → Nat
  | [] => 0
  | c :: l => c.toNat % 128 + 128 * sumF l
theorem lead_le (l : List UInt8) : lead l ≤ l.length := by
  induction l with
  | nil => simp [lead]
  | cons c l ih => simp only [lead]; split <;> simp <;> omega
theorem lead_more (l : List UInt8) : ∀ m, m ≤ lead l → ∀ c ∈ l.take m, 128 ≤ c.toNat := by
  induction l with
  | nil => intro m _ c hc; simp at hc
  | cons d l ih =>
    intro m hm c hc
    cases m with
    | zero => simp at hc
    | succ m =>
      simp only [lead] at hm
      split at hm
      · rename_i h
        rcases List.mem_cons.1 (by simpa using hc) with rfl | h2
        · exact h
        · exact ih m (by omega) c h2
      · omega
theorem tk_lead (l : List UInt8) : ∀ (m : Nat) (first : Bool) (h : lead l < l.length), lead l < m → tk m first l = if (l[lead l]'h).toNat = 0 ∧ (0 < lead l ∨ first = false) then (0, 0, 11) else (sumF (l.take (lead l + 1)), lead l + 1, 0) := by
  induction l with
  | nil => intro m first h; simp [lead] at h
  | cons c l ih =>
    intro m first h hm
    obtain ⟨m, rfl⟩ : ∃ q, m = q + 1 := ⟨m - 1, by omega⟩
    by_cases h1 : 128 ≤ c.toNat
    · have e : lead (c :: l) = lead l + 1 := by simp [lead, h1]
      have h' : lead l < l.length := by rw [e] at h; simp at h; exact h
      have h2 := ih m false h' (by omega)
      simp only [e, List.getElem_cons_succ]
      simp only [tk, if_pos h1, h2]
      by_cases h3 : (l[lead l]'h').toNat = 0
      · simp [h3]
      · simp only [h3, false_and, if_false, if_true, List.take_succ_cons, sumF]
        have := u8_lt c
        refine Prod.ext (by simp only; omega) rfl
    · have e : lead (c :: l) = 0 := by simp [lead, h1]
      simp only [e, List.getElem_cons_zero]
      simp only [tk, if_neg h1]
      have h5 : c.toNat % 128 = c.toNat := by omega
      simp [sumF, h5]
theorem lead_take (l : List UInt8) (h : lead l < l.length) : lead (l.take (lead l + 1)) = lead l := by
  induction l with
  | nil => simp [lead] at h
  | cons c l ih =>
    by_cases h1 : 128 ≤ c.toNat
    · have e : lead (c :: l) = lead l + 1 := by simp [lead, h1]
      have h' : lead l < l.length := by rw [e] at h; simp at h; exact h
      rw [e, List.take_succ_cons]
      simp only [lead, if_pos h1, ih h']
    · have e : lead (c :: l) = 0 := by simp [lead, h1]
      simp [lead, h1]
theorem sumF_lt (l : List UInt8) : sumF l < 128 ^ l.length := by
  induction l with
  | nil => simp [sumF]
  | cons c l ih => simp only [sumF, List.length_cons, Nat.pow_succ]; omega
theorem put_nat (n : Nat) (h : n < 4611686018427387904) : put (n : Int) = putF 8 n := by unfold put; rw [if_neg (by omega)]; simp
theorem put_big (n : Int) (h : 4611686018427387904 ≤ n) : put n = [] := by unfold put; rw [if_pos (by omega)]
theorem tkh_lead (l : List UInt8) (h : lead l < l.length) (h8 : lead l ≤ 8) : tkh l = if put (sumF (l.take (lead l + 1)) : Nat) = l.take (lead l + 1) then (sumF (l.take (lead l + 1)), lead l + 1, 0) else (0, 0, 11) := by
  have h1 := tk_lead l 9 true h (by omega)
  have hne : l.take (lead l + 1) ≠ [] := by
    intro e
    have := congrArg List.length e
    rw [List.length_take, List.length_nil] at this
    omega
  by_cases hz : (l[lead l]'h).toNat = 0 ∧ (0 < lead l ∨ true = false)
  · rw [if_pos hz] at h1
    have e1 : tkh l = (0, 0, 11) := by simp [tkh, h1]
    rw [e1, if_neg]
    intro e
    by_cases hb : sumF (l.take (lead l + 1)) < 4611686018427387904
    · rw [put_nat _ hb] at e
      have h2 := tk_put 8 (sumF (l.take (lead l + 1))) true [] (by omega) (.inr rfl) 9 (by omega)
      rw [List.append_nil, e] at h2
      have h3 := tk_lead (l.take (lead l + 1)) 9 true (by rw [lead_take l h]; simp; omega) (by rw [lead_take l h]; omega)
      have h4 : ((l.take (lead l + 1))[lead (l.take (lead l + 1))]'(by rw [lead_take l h]; simp; omega)) = l[lead l]'h := by
        simp [lead_take l h]
      rw [h4, lead_take l h, if_pos hz, h2] at h3
      simp at h3
    · rw [put_big _ (by omega)] at e
      exact hne e.symm
  · rw [if_neg hz] at h1
    have h2 := tk_back 9 true l (by rw [h1]) 8 (by omega)
    rw [h1] at h2
    simp only at h2
    by_cases hb : sumF (l.take (lead l + 1)) < 4611686018427387904
    · rw [put_nat _ hb, if_pos h2.1.symm]
      simp only [tkh, h1, if_true]
      rw [if_neg (by omega)]
    · rw [put_big _ (by omega), if_neg (fun e => hne e.symm)]
      simp only [tkh, h1, if_true]
      rw [if_pos (by omega)]
theorem tkh_more (l : List UInt8) (h : lead l = l.length ∨ 9 ≤ lead l) : tkh l = if l.length < 9 then (0, 0, 10) else (0, 0, 11) := by
  have h1 := tk_more 9 true l (by
    rcases h with h | h
    · intro c hc
      refine lead_more l (lead l) (Nat.le_refl _) c ?_
      rw [h, List.take_of_length_le (Nat.le_refl _)]
      exact List.mem_of_mem_take hc
    · exact lead_more l 9 h)
  unfold tkh
  rw [h1]
  split <;> simp
theorem wrap64_of {x : Int} (h0 : -9223372036854775808 ≤ x) (h1 : x < 9223372036854775808) : wrap64 x = x := by unfold wrap64; omega
theorem wrap64_nat' {x : Int} {n : Nat} (h : x = n) (h1 : x < 9223372036854775808) : wrap64 x = (n : Int) := by rw [wrap64_of (by omega) h1, h]
/-- What the rest of a take comes to, from place i of the number on, of weight U there. -/
def fin0 (p i acc U : Nat) (r : Nat × Nat × Nat) : Int × Int × Int :=
  if r.2.2 = 0 then (if acc + r.1 * U ≥ 4611686018427387904 then (0, 0, 11) else (((acc + r.1 * U : Nat) : Int), ((p + i + r.2.1 : Nat) : Int), 0)) else (0, 0, r.2.2)
def fin (p i acc : Nat) (r : Nat × Nat × Nat) : Int × Int × Int := fin0 p i acc (128 ^ i) r
theorem fin_succ (p i a : Nat) (r : Nat × Nat × Nat) : fin p (i + 1) a r = fin0 p (i + 1) a (128 ^ i * 128) r := by unfold fin; rw [Nat.pow_succ]
theorem fin_now (p i a : Nat) (r : Nat × Nat × Nat) : fin p i a r = fin0 p i a (128 ^ i) r := by unfold fin; rfl
theorem fin0_err (p i acc U : Nat) (r : Nat × Nat × Nat) (h : r.2.2 ≠ 0) : fin0 p i acc U r = (0, 0, (r.2.2 : Int)) := by unfold fin0; rw [if_neg h]
theorem fin0_next (p i acc U : Nat) (c : UInt8) (h : 128 ≤ c.toNat) (r : Nat × Nat × Nat) : fin0 p i acc U (if r.2.2 = 0 then (c.toNat - 128 + 128 * r.1, r.2.1 + 1, 0) else (0, 0, r.2.2)) = fin0 p (i + 1) (acc + c.toNat % 128 * U) (U * 128) r := by
  by_cases h3 : r.2.2 = 0
  · rw [if_pos h3]
    unfold fin0
    simp only [h3, if_true]
    have hc := u8_lt c
    have e9 : acc + (c.toNat - 128 + 128 * r.1) * U = acc + c.toNat % 128 * U + r.1 * (U * 128) := by
      rw [show c.toNat - 128 = c.toNat % 128 by omega, Nat.add_mul, ← Nat.add_assoc]
      congr 1
      rw [Nat.mul_comm 128 r.1, Nat.mul_assoc, Nat.mul_comm 128]
    rw [e9, show p + i + (r.2.1 + 1) = p + (i + 1) + r.2.1 by omega]
  · rw [if_neg h3, fin0_err _ _ _ _ r h3, fin0_err _ _ _ _ (0, 0, r.2.2) h3]
theorem fin_tkh (p : Nat) (l : List UInt8) : fin p 0 0 (tk 9 true l) = if (tkh l).2.2 = 0 then (((tkh l).1 : Int), (p : Int) + (tkh l).2.1, 0) else (0, 0, ((tkh l).2.2 : Int)) := by
  unfold fin fin0 tkh
  by_cases h : (tk 9 true l).2.2 = 0
  · simp only [h, if_true, Nat.pow_zero, Nat.mul_one, Nat.zero_add, Nat.add_zero]
    by_cases h2 : (tk 9 true l).1 ≥ 4611686018427387904
    · rw [if_pos h2, if_pos h2]; rfl
    · rw [if_neg h2, if_neg h2, if_pos h]
      simp
  · simp only [h, if_false]
theorem put_byte_sum (n : Nat) : (wrap64 (128 + ((n % 128 : Nat) : Int))) % 256 = ((UInt8.ofNat (128 + n % 128)).toNat : Int) := by
  rw [u8_ofNat _ (by omega), wrap64_of (by omega) (by omega)]
  omega
theorem wrap64_div (n : Nat) (h : n < 9223372036854775808) : wrap64 ((n / 128 : Nat) : Int) = ((n / 128 : Nat) : Int) := wrap64_of (by omega) (by omega)
/-! ### whole numbers, at the begin of a text and anywhere in it -/
theorem tkh_put (n : Nat) (h : n < 4611686018427387904) (rest : List UInt8) : tkh (putF 8 n ++ rest) = (n, (putF 8 n).length, 0) := by
  have h1 := tk_put 8 n true rest (by omega) (.inr rfl) 9 (by omega)
  unfold tkh
  rw [h1]
  simp only [if_true]
  rw [if_neg (by omega)]
theorem tkh_cut (n : Nat) (c : Nat) (hc : c < (putF 8 n).length) : tkh ((putF 8 n).take c) = (0, 0, 10) := by
  have h1 := tk_cut 8 n true c hc 9 (by omega)
  unfold tkh
  rw [h1]
  simp
theorem tkh_back (l : List UInt8) (h : (tkh l).2.2 = 0) : put ((tkh l).1 : Nat) = l.take (tkh l).2.1 ∧ putF 8 (tkh l).1 = l.take (tkh l).2.1 ∧ (tkh l).1 < 4611686018427387904 ∧ (tkh l).2.1 ≤ l.length ∧ 1 ≤ (tkh l).2.1 ∧ (tkh l).2.1 ≤ 9 := by
  unfold tkh at h ⊢
  by_cases h1 : (tk 9 true l).2.2 = 0
  · rw [if_pos h1] at h ⊢
    by_cases h2 : (tk 9 true l).1 ≥ 4611686018427387904
    · rw [if_pos h2] at h; simp at h
    · rw [if_neg h2]
      have h3 := tk_back 9 true l h1 8 (by omega)
      refine ⟨?_, h3.1.symm, by omega, h3.2.2.1, h3.2.2.2.1, h3.2.2.2.2.1⟩
      rw [put_nat _ (by omega), h3.1]
  · rw [if_neg h1] at h; exact absurd h h1
theorem tkh_err (l : List UInt8) : (tkh l).2.2 = 0 ∨ tkh l = (0, 0, 10) ∨ tkh l = (0, 0, 11) := by
  unfold tkh
  rcases tk_err 9 true l with h | h | h
  · rw [if_pos h]
    split
    · exact .inr (.inr rfl)
    · exact .inl h
  · rw [h]; exact .inr (.inl rfl)
  · rw [h]; exact .inr (.inr rfl)
theorem put_ok {n : Int} (h : put n ≠ []) : ∃ m : Nat, n = m ∧ m < 4611686018427387904 ∧ put n = putF 8 m := by
  by_cases h0 : n < 0 ∨ n ≥ 4611686018427387904
  · exfalso; apply h; unfold put; rw [if_pos h0]
  · obtain ⟨m, rfl⟩ := Int.eq_ofNat_of_zero_le (show 0 ≤ n by omega)
    exact ⟨m, rfl, by omega, put_nat m (by omega)⟩
theorem put_nil {n : Int} (h : put n = []) : n < 0 ∨ n ≥ 4611686018427387904 := by
  by_cases h0 : n < 0 ∨ n ≥ 4611686018427387904
  · exact h0
  · exfalso
    unfold put at h
    rw [if_neg h0] at h
    exact putF_ne _ _ h
theorem put_len (n : Int) : (put n).length ≤ 9 := by
  unfold put
  split
  · simp
  · have := putF_len 8 n.toNat; omega
theorem takeL_put {n : Int} (h : put n ≠ []) (pre rest : List UInt8) : takeL (pre ++ put n ++ rest) pre.length = (n, (pre.length : Int) + ((put n).length : Int), (0 : Int)) := by
  obtain ⟨m, rfl, hm, e⟩ := put_ok h
  unfold takeL
  rw [if_neg (by simp; omega), Int.toNat_natCast, List.append_assoc, List.drop_left, e, tkh_put m hm]
  simp
theorem put_prefix {n m : Int} (h : put n ≠ []) (k : put m ≠ []) (e : (put m).take (put n).length = put n) : n = m := by
  have h1 := takeL_put k [] []
  have h2 := takeL_put h [] ((put m).drop (put n).length)
  have e2 : put n ++ (put m).drop (put n).length = put m := by
    conv => lhs; arg 1; rw [← e]
    exact List.take_append_drop _ _
  simp only [List.nil_append, List.append_nil, e2] at h1 h2
  rw [h1] at h2
  injection h2 with h2
  exact h2.symm
theorem takeL_back (l : List UInt8) (p : Int) (h : (takeL l p).2.2 = 0) : 0 ≤ p ∧ ∃ u : Nat, (takeL l p).2.1 = p + u ∧ 1 ≤ u ∧ u ≤ 9 ∧ p.toNat + u ≤ l.length ∧ put (takeL l p).1 = (l.drop p.toNat).take u := by
  unfold takeL at h ⊢
  by_cases h0 : p < 0 ∨ p > l.length
  · rw [if_pos h0] at h; simp at h
  · rw [if_neg h0] at h ⊢
    by_cases h1 : (tkh (l.drop p.toNat)).2.2 = 0
    · rw [if_pos h1]
      obtain ⟨b1, _, b2, b3, b4, b5⟩ := tkh_back _ h1
      rw [List.length_drop] at b3
      exact ⟨by omega, (tkh (l.drop p.toNat)).2.1, rfl, b4, b5, by omega, b1⟩
    · rw [if_neg h1] at h; simp at h; omega
/-- A larger number has no fewer bytes. -/
theorem putF_mono (f : Nat) : ∀ n m, n ≤ m → (putF f n).length ≤ (putF f m).length := by
  induction f with
  | zero => intro n m _; simp [putF]
  | succ f ih =>
    intro n m h
    simp only [putF]
    have := ih (n / 128) (m / 128) (by omega)
    have := (putF_len f (m / 128)).1
    split <;> split <;> simp <;> omega
/-- Each byte but the last one is 128 or more. -/
theorem putF_cont (f : Nat) : ∀ n, n < 128 ^ (f + 1) → ∀ i (h : i < (putF f n).length), 128 ≤ ((putF f n)[i]).toNat ↔ i + 1 < (putF f n).length := by
  induction f with
  | zero =>
    intro n hn i h
    have h1 : n < 128 := by simpa using hn
    have : i = 0 := by simp [putF] at h; exact h
    subst this
    simp [putF]
    omega
  | succ f ih =>
    intro n hn i h
    by_cases h1 : n < 128
    · have e : putF (f + 1) n = [UInt8.ofNat n] := by simp only [putF, if_pos h1]
      simp only [e, List.length_singleton] at h ⊢
      have : i = 0 := by omega
      subst this
      simp
      omega
    · have e : putF (f + 1) n = UInt8.ofNat (128 + n % 128) :: putF f (n / 128) := by simp only [putF, if_neg h1]
      simp only [e, List.length_cons] at h ⊢
      cases i with
      | zero =>
        have := (putF_len f (n / 128)).1
        have h2 := u8_ofNat (128 + n % 128) (by omega)
        simp only [List.getElem_cons_zero, h2]
        omega
      | succ i =>
        have h3 : n / 128 < 128 ^ (f + 1) := by rw [Nat.pow_succ] at hn; exact Nat.div_lt_of_lt_mul (by rw [Nat.mul_comm]; exact hn)
        have := ih (n / 128) h3 i (by omega)
        simp only [List.getElem_cons_succ]
        omega
theorem lead_replicate (c : UInt8) (h : 128 ≤ c.toNat) (n : Nat) : lead (List.replicate n c) = n := by
  induction n with
  | zero => rfl
  | succ n ih => simp only [List.replicate_succ, lead, if_pos h, ih]
theorem putF_eight (n : Nat) (h : n < 4611686018427387904) : (putF 9 n).length = (putF 8 n).length := by
  have h1 := tk_put 8 n true [] (by omega) (.inr rfl) 10 (by omega)
  have h2 := tk_put 9 n true [] (by omega) (.inr rfl) 10 (by omega)
  have h3 := tk_back 10 true (putF 8 n ++ []) (by rw [h1]) 9 (by omega)
  rw [h1] at h3
  have := congrArg List.length h3.1
  simp at this
  omega
end ShCore

/- What varint's printed functions come to, by the plain lists of bytes. For every input. -/
namespace Go.Proofs.Ythechcflnkofgaa.Q
open Go Go.RowKit Go.Proofs.YthechcflnkofgaaW.PrintWords Go.Proofs.YthechcflnkofgaaW.PrintLast Go.Proofs.YthechcflnkofgaaW.PrintMore ShCore

theorem varint_Put.l0_ev (f : Nat) : ∀ (n : Nat) (acc : List Int), n < 128 ^ (f + 1) → n < 9223372036854775808 → acc.length + f < 1000 →
    Ev (fun k => varint_Put.l0 k n acc) (strOfNums (acc ++ (putF f n).map fun c => (c.toNat : Int))) := by
  induction f with
  | zero =>
    intro n acc hn _ hl
    have h1 : n < 128 := by simpa using hn
    refine Ev.step (f := fun _ => some _) (fun k => ?_) (Ev.now _)
    simp only [varint_Put.l0]
    rw [if_neg (by omega), if_pos (by omega), last_byte n h1]
    rfl
  | succ f ih =>
    intro n acc hn hb hl
    by_cases h1 : n < 128
    · refine Ev.step (f := fun _ => some _) (fun k => ?_) (Ev.now _)
      simp only [varint_Put.l0]
      rw [if_neg (by omega), if_pos (by omega), last_byte n h1]
      simp only [putF, if_pos h1]
      rfl
    · have h3 : n / 128 < 128 ^ (f + 1) := by rw [Nat.pow_succ] at hn; exact Nat.div_lt_of_lt_mul (by rw [Nat.mul_comm]; exact hn)
      have h2 := ih (n / 128) (acc ++ [((UInt8.ofNat (128 + n % 128)).toNat : Int)]) h3 (by omega) (by simp; omega)
      refine Ev.step (fun k => ?_) (r := _) (f := fun k => varint_Put.l0 k ((n / 128 : Nat) : Int) (acc ++ [((UInt8.ofNat (128 + n % 128)).toNat : Int)])) ?_
      · simp only [varint_Put.l0]
        rw [if_pos (by omega), if_pos (by omega), put_byte n hb]
        rfl
      · simp only [putF, if_neg h1, List.map_cons]
        rw [List.append_assoc] at h2
        exact h2
theorem varint_Put.ev (n : Int) : Ev (fun k => varint_Put.f k n) (arr (put n)) := by
  have e0 : (⟨#[]⟩ : ByteArray) = arr [] := rfl
  by_cases h0 : n < 0
  · have e : put n = [] := by unfold put; rw [if_pos (.inl h0)]
    rw [e]
    refine Ev.step (f := fun _ => some _) (fun k => ?_) (Ev.now _)
    unfold varint_Put.f
    rw [if_pos h0]
    rfl
  · by_cases h1 : n ≥ 4611686018427387904
    · have e : put n = [] := by unfold put; rw [if_pos (.inr h1)]
      rw [e]
      refine Ev.step (f := fun _ => some _) (fun k => ?_) (Ev.now _)
      unfold varint_Put.f
      rw [if_neg h0]
      simp only [varint_Put.j0, decide_eq_true h1]
      rfl
    · obtain ⟨m, rfl⟩ := Int.eq_ofNat_of_zero_le (show 0 ≤ n by omega)
      rw [put_nat m (by omega)]
      have h2 := varint_Put.l0_ev 8 m [] (by omega) (by omega) (by simp)
      rw [List.nil_append, strOfNums_bytes] at h2
      refine Ev.step (fun k => ?_) h2
      unfold varint_Put.f
      rw [if_neg h0]
      simp only [varint_Put.j0, decide_eq_false h1]
      rfl

theorem varint_Take.l0_ev (s : ByteArray) (p : Nat) (hp : p ≤ s.size) (hs : s.size < 4611686018427387904) (lim : Nat) (hlim : lim = min 9 (s.size - p)) (d : Nat) : ∀ (i acc : Nat), i + d = lim → acc < 128 ^ i →
    Ev (fun k => varint_Take.l0 k s p acc lim i) (fin p i acc (tk (9 - i) (i == 0) ((lst s).drop (p + i)))) := by
  have hlen := lst_length s
  induction d with
  | zero =>
    intro i acc hi ha
    refine Ev.step (f := fun _ => some _) (fun k => ?_) (Ev.now _)
    simp only [varint_Take.l0]
    rw [if_neg (by omega)]
    have a1 : (s.size : Int) - p = ((s.size - p : Nat) : Int) ∧ (s.size : Int) - p < 9223372036854775808 := by omega
    rw [wrap64_nat' a1.1 a1.2]
    by_cases h9 : s.size - p < 9
    · rw [if_pos (by omega)]
      obtain ⟨q, hq⟩ : ∃ q, 9 - i = q + 1 := ⟨8 - i, by omega⟩
      have hd : (lst s).drop (p + i) = [] := List.drop_eq_nil_of_le (by omega)
      rw [hq, hd]
      rfl
    · rw [if_neg (by omega)]
      rw [show 9 - i = 0 by omega]
      rfl
  | succ d ih =>
    intro i acc hi ha
    have hlt : p + i < s.size := by omega
    obtain ⟨c, hc, hb⟩ := drop_bt s (p + i) hlt
    obtain ⟨q, hq⟩ : ∃ q, 9 - i = q + 1 := ⟨8 - i, by omega⟩
    have hc8 := u8_lt c
    have hU := pow128_le (show i ≤ 8 by omega)
    have hV : c.toNat % 128 * 128 ^ i ≤ 127 * 128 ^ i := Nat.mul_le_mul_right _ (by omega)
    have hcm : c.toNat % 128 < 128 := by clear hU hV ha; omega
    have hi8 : i ≤ 8 := by clear hU hV ha; omega
    have e7 := or_shl i acc (c.toNat % 128) hi8 ha hcm
    have eP : 128 ^ (i + 1) = 128 ^ i * 128 := Nat.pow_succ ..
    have e6 := and_byte c
    have eF : ∀ r, fin p i acc r = fin0 p i acc (128 ^ i) r := fin_now p i acc
    have eG : ∀ a r, fin p (i + 1) a r = fin0 p (i + 1) a (128 ^ i * 128) r := fin_succ p i
    rw [eF]
    generalize 128 ^ i = U at hU hV ha e7 eP eF eG
    have a1 : (p : Int) + i = ((p + i : Nat) : Int) ∧ (p : Int) + i < 9223372036854775808 := by omega
    have a2 : (c.toNat : Int) < 9223372036854775808 := by omega
    have a3 : -9223372036854775808 ≤ 7 * (i : Int) ∧ 7 * (i : Int) < 9223372036854775808 := by omega
    have a4 : (i : Int) + 1 = ((i + 1 : Nat) : Int) ∧ (i : Int) + 1 < 9223372036854775808 := by omega
    have a5 : ((p + i : Nat) : Int) + 1 = ((p + i + 1 : Nat) : Int) ∧ ((p + i : Nat) : Int) + 1 < 9223372036854775808 := by omega
    rw [hq, hc]
    by_cases h1 : 128 ≤ c.toNat
    · have h2 := ih (i + 1) (acc + c.toNat % 128 * U) (by omega) (by rw [eP]; omega)
      refine Ev.step (fun k => ?_) (f := fun k => varint_Take.l0 k s p ((acc + c.toNat % 128 * U : Nat) : Int) lim ((i + 1 : Nat) : Int)) ?_
      · simp only [varint_Take.l0, wrap64_nat' a1.1 a1.2, hb, wrap64_nat' rfl a2, wrap64_of a3.1 a3.2, wrap64_nat' a4.1 a4.2, e6, e7]
        rw [if_pos (by omega), if_pos (by omega), if_pos (by omega), if_pos (by omega), if_pos (by omega)]
      · rw [eG, show 9 - (i + 1) = q by omega, show (i + 1 == 0) = false from rfl, show p + (i + 1) = p + i + 1 by omega] at h2
        simp only [tk, if_pos h1]
        have e8 := fin0_next p i acc U c h1 (tk q false ((lst s).drop (p + i + 1)))
        rw [e8]
        exact h2
    · refine Ev.step (f := fun _ => some _) (fun k => ?_) (Ev.now _)
      have e8 : c.toNat % 128 = c.toNat := by omega
      rw [e8] at hV e6 e7
      simp only [varint_Take.l0, wrap64_nat' a1.1 a1.2, hb, wrap64_nat' rfl a2, wrap64_of a3.1 a3.2, wrap64_nat' a4.1 a4.2, wrap64_nat' a5.1 a5.2, e6, e7]
      rw [if_pos (by omega), if_pos (by omega), if_pos (by omega), if_pos (by omega), if_neg (by omega)]
      simp only [tk, if_neg h1]
      by_cases hz : c.toNat = 0
      · rw [if_pos (by omega)]
        by_cases hi0 : i = 0
        · subst hi0
          rw [if_neg (by omega), if_neg (by omega), if_neg (by omega), if_neg (by simp)]
          simp [fin0, hz]
          omega
        · rw [if_pos (by omega), if_pos ⟨hz, by simp; omega⟩]
          rfl
      · have hz' : ¬ (c.toNat = 0 ∧ (i == 0) = false) := fun h => hz h.1
        rw [if_neg (by omega), if_neg hz']
        unfold fin0
        simp only [if_true]
        by_cases hm : acc + c.toNat * U ≥ 4611686018427387904
        · rw [if_pos (by omega), if_pos hm]
        · rw [if_neg (by omega), if_neg (by omega), if_neg hm]
theorem varint_Take.ev (s : ByteArray) (p : Int) (hs : s.size < 4611686018427387904) : Ev (fun k => varint_Take.f k s p) (takeL (lst s) p) := by
  have hlen := lst_length s
  by_cases h0 : p < 0
  · have e : takeL (lst s) p = (0, 0, 1) := by unfold takeL; rw [if_pos (.inl h0)]
    rw [e]
    refine Ev.step (f := fun _ => some _) (fun k => ?_) (Ev.now _)
    unfold varint_Take.f
    rw [if_pos h0]
    rfl
  · by_cases h1 : p > (s.size : Int)
    · have e : takeL (lst s) p = (0, 0, 1) := by unfold takeL; rw [if_pos (.inr (by omega))]
      rw [e]
      refine Ev.step (f := fun _ => some _) (fun k => ?_) (Ev.now _)
      unfold varint_Take.f
      rw [if_neg h0]
      simp only [varint_Take.j0, decide_eq_true h1]
      rfl
    · obtain ⟨q, rfl⟩ := Int.eq_ofNat_of_zero_le (show 0 ≤ p by omega)
      have e : takeL (lst s) (q : Int) = fin q 0 0 (tk 9 true ((lst s).drop q)) := by
        unfold takeL
        rw [if_neg (by omega), fin_tkh]
        simp
      rw [e]
      have h2 := varint_Take.l0_ev s q (by omega) hs (min 9 (s.size - q)) rfl (min 9 (s.size - q)) 0 0 (by omega) (by simp)
      refine Ev.step (fun k => ?_) h2
      unfold varint_Take.f
      rw [if_neg h0]
      simp only [varint_Take.j0, decide_eq_false h1]
      have e2 : mn 9 (wrap64 ((s.size : Int) - q)) = ((min 9 (s.size - q) : Nat) : Int) := by unfold mn wrap64; split <;> omega
      rw [e2]
      rfl
end Go.Proofs.Ythechcflnkofgaa.Q

/- What the document's varint functions come to, by the plain lists of bytes. For every input. -/
namespace Go.Proofs.Ythechcflnkofgaa.Q
open Go Go.RowKit Go.Proofs.YthechcflnkofgaaW.PrintWords Go.Proofs.YthechcflnkofgaaW.PrintLast Go.Proofs.YthechcflnkofgaaW.PrintMore ShCore

theorem shuttlecockref01_Put.l0_ev (f : Nat) : ∀ (n : Nat) (acc : List Int), n < 128 ^ (f + 1) → n < 9223372036854775808 → acc.length + f < 1000 →
    Ev (fun k => shuttlecockref01_Put.l0 k n acc) (strOfNums (acc ++ (putF f n).map fun c => (c.toNat : Int))) := by
  induction f with
  | zero =>
    intro n acc hn _ hl
    have h1 : n < 128 := by simpa using hn
    refine Ev.step (f := fun _ => some _) (fun k => ?_) (Ev.now _)
    simp only [shuttlecockref01_Put.l0]
    rw [if_neg (by omega), if_pos (by omega), last_byte n h1]
    rfl
  | succ f ih =>
    intro n acc hn hb hl
    by_cases h1 : n < 128
    · refine Ev.step (f := fun _ => some _) (fun k => ?_) (Ev.now _)
      simp only [shuttlecockref01_Put.l0]
      rw [if_neg (by omega), if_pos (by omega), last_byte n h1]
      simp only [putF, if_pos h1]
      rfl
    · have h3 : n / 128 < 128 ^ (f + 1) := by rw [Nat.pow_succ] at hn; exact Nat.div_lt_of_lt_mul (by rw [Nat.mul_comm]; exact hn)
      have h2 := ih (n / 128) (acc ++ [((UInt8.ofNat (128 + n % 128)).toNat : Int)]) h3 (by omega) (by simp; omega)
      refine Ev.step (fun k => ?_) (r := _) (f := fun k => shuttlecockref01_Put.l0 k ((n / 128 : Nat) : Int) (acc ++ [((UInt8.ofNat (128 + n % 128)).toNat : Int)])) ?_
      · simp only [shuttlecockref01_Put.l0]
        rw [if_pos (by omega), if_pos (by omega), tdiv128, tmod128, put_byte_sum n, wrap64_div n hb]
      · simp only [putF, if_neg h1, List.map_cons]
        rw [List.append_assoc] at h2
        exact h2
theorem shuttlecockref01_Put.ev (n : Int) : Ev (fun k => shuttlecockref01_Put.f k n) (arr (put n)) := by
  by_cases h0 : n < 0
  · have e : put n = [] := by unfold put; rw [if_pos (.inl h0)]
    rw [e]
    refine Ev.step (f := fun _ => some _) (fun k => ?_) (Ev.now _)
    unfold shuttlecockref01_Put.f
    rw [if_pos h0]
    rfl
  · by_cases h1 : n ≥ 4611686018427387904
    · have e : put n = [] := by unfold put; rw [if_pos (.inr h1)]
      rw [e]
      refine Ev.step (f := fun _ => some _) (fun k => ?_) (Ev.now _)
      unfold shuttlecockref01_Put.f
      rw [if_neg h0]
      simp only [shuttlecockref01_Put.j0, decide_eq_true h1]
      rfl
    · obtain ⟨m, rfl⟩ := Int.eq_ofNat_of_zero_le (show 0 ≤ n by omega)
      rw [put_nat m (by omega)]
      have h2 := shuttlecockref01_Put.l0_ev 8 m [] (by omega) (by omega) (by simp)
      rw [List.nil_append, strOfNums_bytes] at h2
      refine Ev.step (fun k => ?_) h2
      unfold shuttlecockref01_Put.f
      rw [if_neg h0]
      simp only [shuttlecockref01_Put.j0, decide_eq_false h1]
      rfl

end Go.Proofs.Ythechcflnkofgaa.Q

/- A reader of a text, as plain functions of lists of bytes; texts and numbers, one behind the other. No condition: plain lists and numbers alone, no program in sight. -/
namespace ShCore
open Go Go.RowKit Go.Proofs.YthechcflnkofgaaW.PrintWords Go.Proofs.YthechcflnkofgaaW.PrintMore

/-- A reader's place, its error, where the call with the error began. -/
structure Rd where
  a : Int
  e : Int
  f : Int
deriving DecidableEq
def rdTake0 (s : List UInt8) (r : Rd) (n b : Int) : List UInt8 × Rd :=
  if n < 0 then ([], ⟨b, 1, b⟩) else if n > s.length - r.a then ([], ⟨b, 10, b⟩) else ((s.drop r.a.toNat).take n.toNat, ⟨r.a + n, r.e, r.f⟩)
def rdTake (s : List UInt8) (r : Rd) (n : Int) : List UInt8 × Rd := if r.e = 0 then rdTake0 s r n r.a else ([], r)
def rdByte (s : List UInt8) (r : Rd) : Int × Rd := match (rdTake s r 1).1 with
  | [] => (0, (rdTake s r 1).2)
  | c :: _ => (c.toNat, (rdTake s r 1).2)
def rdNum (s : List UInt8) (r : Rd) : Int × Rd :=
  if r.e = 0 then (if (takeL s r.a).2.2 = 0 then ((takeL s r.a).1, ⟨(takeL s r.a).2.1, r.e, r.f⟩) else (0, ⟨r.a, (takeL s r.a).2.2, r.a⟩)) else (0, r)
def rdText (s : List UInt8) (r : Rd) : List UInt8 × Rd :=
  if r.e = 0 then (if (rdNum s r).2.e = 0 then rdTake0 s (rdNum s r).2 (rdNum s r).1 r.a else ([], (rdNum s r).2)) else ([], r)
def rdDone (s : List UInt8) (r : Rd) : Bool := r.e == 0 && r.a == (s.length : Int)
def Rd.ok (s : List UInt8) (r : Rd) : Prop := 0 ≤ r.a ∧ r.a ≤ s.length
theorem rdTake0_ok {s : List UInt8} {r : Rd} (h : r.ok s) (n b : Int) (hb : 0 ≤ b ∧ b ≤ s.length) : (rdTake0 s r n b).2.ok s := by
  unfold rdTake0 Rd.ok at *
  split
  · exact hb
  · split
    · exact hb
    · simp only; omega
theorem rdTake_ok {s : List UInt8} {r : Rd} (h : r.ok s) (n : Int) : (rdTake s r n).2.ok s := by
  unfold rdTake
  split
  · exact rdTake0_ok h n r.a h
  · exact h
theorem rdByte_ok {s : List UInt8} {r : Rd} (h : r.ok s) : (rdByte s r).2.ok s := by
  unfold rdByte
  split <;> exact rdTake_ok h 1
theorem takeL_le (l : List UInt8) (p : Int) (h : (takeL l p).2.2 = 0) : 0 ≤ (takeL l p).2.1 ∧ (takeL l p).2.1 ≤ l.length := by
  obtain ⟨h0, u, e, h1, h9, hl, _⟩ := takeL_back l p h
  omega
theorem rdNum_ok {s : List UInt8} {r : Rd} (h : r.ok s) : (rdNum s r).2.ok s := by
  unfold rdNum
  split
  · split
    · rename_i h1
      exact takeL_le s r.a h1
    · exact h
  · exact h
theorem rdText_ok {s : List UInt8} {r : Rd} (h : r.ok s) : (rdText s r).2.ok s := by
  unfold rdText
  split
  · split
    · exact rdTake0_ok (rdNum_ok h) _ _ h
    · exact rdNum_ok h
  · exact h
theorem takeL_nonneg (l : List UInt8) (p : Int) : 0 ≤ (takeL l p).1 ∧ (takeL l p).1 < 4611686018427387904 := by
  unfold takeL
  split
  · simp
  · split
    · rename_i h
      have := (tkh_back _ h).2.2.1
      simp only
      omega
    · simp
theorem rdNum_nonneg (s : List UInt8) (r : Rd) : 0 ≤ (rdNum s r).1 ∧ (rdNum s r).1 < 4611686018427387904 := by
  unfold rdNum
  split
  · split
    · exact takeL_nonneg s r.a
    · simp
  · simp

theorem succ_big (n : Nat) (h : n ≤ 1000000000000) : (n : Int) + 1 < 9223372036854775808 := by omega
theorem wrap_succ (n : Nat) (h : n ≤ 1000000000000) : wrap64 ((n : Int) + 1) = (n : Int) + 1 := wrap64_of (by omega) (by omega)
theorem stuck_take (s : List UInt8) (h : s.length ≤ 1000000000000) (n : Nat) (hn : s.length = n) : rdTake s ⟨0, 0, 0⟩ ((n : Int) + 1) = ([], ⟨0, 10, 0⟩) := by
  simp only [rdTake, rdTake0, if_true]
  rw [if_neg (by omega), if_pos (by omega)]

/-! ### numbers and texts, one behind the other -/
/-- The bytes of numbers; none, if one of them may not be. -/
def numsO : List Int → Option (List UInt8)
  | [] => some []
  | n :: l => if put n = [] then none else (numsO l).map (put n ++ ·)
def numsL (l : List Int) : List UInt8 := (numsO l).getD []
def text (s : List UInt8) : List UInt8 := put s.length ++ s
theorem nums_len : ∀ (l : List Int) (b : List UInt8), numsO l = some b → b.length ≤ 9 * l.length
  | [], b, h => by simp [numsO] at h; subst h; simp
  | n :: l, b, h => by
    simp only [numsO] at h
    split at h
    · cases h
    · obtain ⟨c, hc, rfl⟩ := Option.map_eq_some_iff.1 h
      have := nums_len l c hc
      have := put_len n
      simp
      omega
theorem text_len (s : List UInt8) : (text s).length ≤ s.length + 9 := by
  have := put_len s.length
  unfold text
  rw [List.length_append]
  omega
def header : List UInt8 := [83, 72, 84, 76, 1]
def headL (s : List UInt8) : Int × Int := if header <+: s then (5, 0) else if s <+: header then (0, 10) else (0, 20)
end ShCore

/- What was written is read, one behind the other; cut off it is too short. Plain lists and numbers alone. -/
namespace ShCore
open Go Go.RowKit Go.Proofs.YthechcflnkofgaaW.PrintWords Go.Proofs.YthechcflnkofgaaW.PrintMore

/-! ### pieces, one behind the other -/
def off {α : Type} (f : α → List UInt8) (l : List α) (i : Nat) : List UInt8 := (l.take i).flatMap f
theorem off_zero {α : Type} (f : α → List UInt8) (l : List α) : off f l 0 = [] := by simp [off]
theorem off_all {α : Type} (f : α → List UInt8) (l : List α) : off f l l.length = l.flatMap f := by simp [off]
theorem off_succ {α : Type} (f : α → List UInt8) (l : List α) (i : Nat) (x : α) (h : l[i]? = some x) : off f l (i + 1) = off f l i ++ f x := by
  unfold off
  rw [List.take_add_one, h, List.flatMap_append]
  simp
theorem off_split {α : Type} (f : α → List UInt8) (l : List α) (i : Nat) (x : α) (h : l[i]? = some x) : l.flatMap f = off f l i ++ f x ++ (l.drop (i + 1)).flatMap f := by
  rw [← off_succ f l i x h]
  unfold off
  rw [← List.flatMap_append, List.take_append_drop]
theorem off_len {α : Type} (f : α → List UInt8) (l : List α) (m : Nat) (h : ∀ x ∈ l, (f x).length ≤ m) (i : Nat) : (off f l i).length ≤ m * i := by
  unfold off
  induction i generalizing l with
  | zero => simp
  | succ i ih =>
    cases l with
    | nil => simp
    | cons x l =>
      rw [List.take_succ_cons, List.flatMap_cons, List.length_append]
      have h1 := h x List.mem_cons_self
      have h2 := ih l (fun y hy => h y (List.mem_cons_of_mem _ hy))
      rw [Nat.mul_add]
      omega
theorem numsO_all : ∀ (l : List Int), (∀ n ∈ l, put n ≠ []) → numsO l = some (l.flatMap put)
  | [], _ => by simp [numsO]
  | n :: l, h => by
    rw [numsO, if_neg (h n List.mem_cons_self), numsO_all l (fun x hx => h x (List.mem_cons_of_mem _ hx))]
    simp
theorem numsO_none : ∀ (l : List Int) (n : Int), n ∈ l → put n = [] → numsO l = none
  | m :: l, n, h, e => by
    rw [numsO]
    split
    · rfl
    · rename_i hm
      rcases List.mem_cons.1 h with rfl | h
      · exact absurd e hm
      · rw [numsO_none l n h e]
        rfl
theorem numsL_cases (l : List Int) : (∃ n ∈ l, put n = []) ∧ numsL l = [] ∨ (∀ n ∈ l, put n ≠ []) ∧ numsL l = l.flatMap put := by
  by_cases h : ∃ n ∈ l, put n = []
  · obtain ⟨n, hn, e⟩ := h
    exact .inl ⟨⟨n, hn, e⟩, by unfold numsL; rw [numsO_none l n hn e]; rfl⟩
  · have h' : ∀ n ∈ l, put n ≠ [] := fun n hn e => h ⟨n, hn, e⟩
    exact .inr ⟨h', by unfold numsL; rw [numsO_all l h']; rfl⟩
/-! ### read where it stands -/
theorem rdNum_at {n : Int} (hn : put n ≠ []) (pre rest : List UInt8) (f : Int) : rdNum (pre ++ put n ++ rest) ⟨pre.length, 0, f⟩ = (n, ⟨(pre.length : Int) + ((put n).length : Int), 0, f⟩) := by
  unfold rdNum
  simp only [takeL_put hn pre rest, if_true]
theorem put_len_nat (n : Nat) (h : n < 4611686018427387904) : put (n : Int) ≠ [] := by
  rw [put_nat n h]
  exact putF_ne 8 n
theorem rdText_at (t : List UInt8) (ht : t.length < 4611686018427387904) (pre rest : List UInt8) (f : Int) : rdText (pre ++ text t ++ rest) ⟨pre.length, 0, f⟩ = (t, ⟨(pre.length : Int) + ((text t).length : Int), 0, f⟩) := by
  have hp := put_len_nat t.length ht
  have e : pre ++ text t ++ rest = pre ++ put (t.length : Int) ++ (t ++ rest) := by simp [text]
  unfold rdText
  simp only [if_true]
  rw [e, rdNum_at hp]
  simp only [if_true, rdTake0]
  rw [if_neg (by omega), if_neg (by simp only [List.length_append]; omega)]
  have e2 : ((pre.length : Int) + ((put (t.length : Int)).length : Int)).toNat = (pre ++ put (t.length : Int)).length := by rw [List.length_append]; omega
  rw [e2, List.drop_left]
  simp only [Int.toNat_natCast, List.take_left]
  refine Prod.ext rfl ?_
  simp only [Rd.mk.injEq, and_self, and_true]
  unfold text
  rw [List.length_append]
  omega
/-! ### cut off -/
def cutInv (pos cut : Nat) (r : Rd) : Prop := (r.e = 0 ∧ r.a = pos ∧ pos ≤ cut) ∨ (r.e = 10 ∧ r.f ≤ cut)
theorem take_in (pre x rest : List UInt8) (cut : Nat) (h : pre.length + x.length ≤ cut) : (pre ++ x ++ rest).take cut = pre ++ x ++ rest.take (cut - (pre.length + x.length)) := by
  rw [List.take_append, List.take_of_length_le (by rw [List.length_append]; exact h), List.length_append]
theorem take_out (pre x rest : List UInt8) (cut : Nat) (h0 : pre.length ≤ cut) (h : cut ≤ pre.length + x.length) : (pre ++ x ++ rest).take cut = pre ++ x.take (cut - pre.length) := by
  rw [List.take_append_of_le_length (by rw [List.length_append]; exact h), List.take_append, List.take_of_length_le h0]
theorem takeL_cut {n : Int} (hn : put n ≠ []) (pre : List UInt8) (c : Nat) (h : c < (put n).length) : takeL (pre ++ (put n).take c) pre.length = (0, 0, 10) := by
  obtain ⟨m, rfl, hm, e⟩ := put_ok hn
  rw [e] at h ⊢
  unfold takeL
  rw [if_neg (by rw [List.length_append]; omega), Int.toNat_natCast, List.drop_left, tkh_cut m c h]
  rfl
theorem rdNum_cut0 {n : Int} (hn : put n ≠ []) (pre rest : List UInt8) (cut : Nat) (f : Int) (h0 : pre.length ≤ cut) (h : cut < pre.length + (put n).length) :
    rdNum ((pre ++ put n ++ rest).take cut) ⟨pre.length, 0, f⟩ = (0, ⟨pre.length, 10, pre.length⟩) := by
  rw [take_out _ _ _ _ h0 (by omega)]
  unfold rdNum
  simp only [takeL_cut hn pre (cut - pre.length) (by omega), if_true]
  rfl
theorem rdNum_cut {n : Int} (hn : put n ≠ []) (pre rest : List UInt8) (cut : Nat) (r : Rd) (h : cutInv pre.length cut r) : cutInv (pre.length + (put n).length) cut (rdNum ((pre ++ put n ++ rest).take cut) r).2 := by
  obtain ⟨a, e, f⟩ := r
  rcases h with ⟨he, ha, hp⟩ | ⟨he, hf⟩
  · simp only at he ha
    subst he ha
    by_cases c : pre.length + (put n).length ≤ cut
    · rw [take_in _ _ _ _ c, rdNum_at hn]
      exact .inl ⟨rfl, by simp, c⟩
    · rw [rdNum_cut0 hn pre rest cut f hp (by omega)]
      exact .inr ⟨rfl, by simp only; omega⟩
  · simp only at he
    subst he
    exact .inr ⟨rfl, hf⟩
theorem rdText_cut (t : List UInt8) (ht : t.length < 4611686018427387904) (pre rest : List UInt8) (cut : Nat) (r : Rd) (h : cutInv pre.length cut r) : cutInv (pre.length + (text t).length) cut (rdText ((pre ++ text t ++ rest).take cut) r).2 := by
  obtain ⟨a, e, f⟩ := r
  rcases h with ⟨he, ha, hp⟩ | ⟨he, hf⟩
  · simp only at he ha
    subst he ha
    have hn := put_len_nat t.length ht
    by_cases c : pre.length + (text t).length ≤ cut
    · rw [take_in _ _ _ _ c, rdText_at t ht]
      exact .inl ⟨rfl, by simp, c⟩
    · have e : pre ++ text t ++ rest = pre ++ put (t.length : Int) ++ (t ++ rest) := by simp [text]
      have hl : (text t).length = (put (t.length : Int)).length + t.length := by unfold text; rw [List.length_append]
      rw [e]
      by_cases c2 : pre.length + (put (t.length : Int)).length ≤ cut
      · have hs : ((pre ++ put (t.length : Int) ++ (t ++ rest)).take cut).length ≤ cut := by rw [List.length_take]; omega
        rw [take_in _ _ _ _ c2] at hs ⊢
        unfold rdText
        simp only [if_true]
        rw [rdNum_at hn]
        simp only [if_true, rdTake0]
        rw [if_neg (by omega), if_pos (by omega)]
        exact .inr ⟨rfl, by simp only; omega⟩
      · unfold rdText
        simp only [if_true]
        rw [rdNum_cut0 hn pre (t ++ rest) cut f hp (by omega)]
        rw [if_neg (by simp)]
        exact .inr ⟨rfl, by simp only; omega⟩
  · simp only at he
    subst he
    exact .inr ⟨rfl, hf⟩
theorem cutInv_end {pos cut : Nat} {r : Rd} (h : cutInv pos cut r) (hc : cut < pos) : r.e = 10 ∧ r.f ≤ cut := by
  rcases h with ⟨_, _, h⟩ | h
  · omega
  · exact h
end ShCore

/- What wire's printed functions come to, by plain lists of bytes. For every input within the machine's sizes. -/
namespace Go.Proofs.Ythechcflnkofgaa.Q
open Go Go.RowKit Go.Proofs.YthechcflnkofgaaW.PrintWords Go.Proofs.YthechcflnkofgaaW.PrintLast Go.Proofs.YthechcflnkofgaaW.PrintMore ShCore

theorem wire_Reader_take.eq (s : ByteArray) (r : Rd) (n b : Int) (hs : s.size < 4611686018427387904) (h : r.ok (lst s)) (hn : n < 9223372036854775808) :
    wire_Reader_take.f s r.a r.e r.f n b = some (arr (rdTake0 (lst s) r n b).1, s, (rdTake0 (lst s) r n b).2.a, (rdTake0 (lst s) r n b).2.e, (rdTake0 (lst s) r n b).2.f) := by
  obtain ⟨a, e, f⟩ := r
  have hl := lst_length s
  obtain ⟨h0, h1⟩ := h
  simp only at h0 h1
  rw [hl] at h1
  have a1 : -9223372036854775808 ≤ (s.size : Int) - a ∧ (s.size : Int) - a < 9223372036854775808 := by omega
  unfold wire_Reader_take.f rdTake0
  rw [wrap64_of a1.1 a1.2]
  simp only [hl]
  by_cases c1 : n < 0
  · rw [if_pos c1, if_pos c1]
    rfl
  · rw [if_neg c1, if_neg c1]
    by_cases c2 : n > (s.size : Int) - a
    · rw [if_pos c2, if_pos c2]
      rfl
    · rw [if_neg c2, if_neg c2]
      have a2 : -9223372036854775808 ≤ a + n ∧ a + n < 9223372036854775808 := by omega
      rw [wrap64_of a2.1 a2.2, if_pos h0, if_pos (by omega), if_pos (by omega)]
      have e1 : s.extract a.toNat (a + n).toNat = arr (((lst s).drop a.toNat).take n.toNat) := by
        apply lst_inj
        rw [lst_extract, lst_arr, show (a + n).toNat - a.toNat = n.toNat by omega]
      rw [e1]
theorem wire_Reader_Take.eq (s : ByteArray) (r : Rd) (n : Int) (hs : s.size < 4611686018427387904) (h : r.ok (lst s)) (hn : n < 9223372036854775808) :
    wire_Reader_Take.f s r.a r.e r.f n = some (arr (rdTake (lst s) r n).1, s, (rdTake (lst s) r n).2.a, (rdTake (lst s) r n).2.e, (rdTake (lst s) r n).2.f) := by
  unfold wire_Reader_Take.f wire_Reader_ok.f rdTake
  simp only [Option.bind_some]
  by_cases c : r.e = 0
  · rw [if_pos (by simpa using c), if_pos c, wire_Reader_take.eq s r n r.a hs h hn]
    rfl
  · rw [if_neg (by simpa using c), if_neg c]
    rfl
theorem bt_zero (c : UInt8) (l : List UInt8) : bt (arr (c :: l)) 0 = c.toNat := by
  obtain ⟨d, hd, hb⟩ := drop_bt (arr (c :: l)) 0 (by rw [size_arr]; simp)
  rw [lst_arr] at hd
  simp at hd
  rw [← hd] at hb
  exact hb
theorem wire_Reader_Byte.eq (s : ByteArray) (r : Rd) (hs : s.size < 4611686018427387904) (h : r.ok (lst s)) :
    wire_Reader_Byte.f s r.a r.e r.f = some ((rdByte (lst s) r).1, s, (rdByte (lst s) r).2.a, (rdByte (lst s) r).2.e, (rdByte (lst s) r).2.f) := by
  unfold wire_Reader_Byte.f rdByte
  rw [wire_Reader_Take.eq s r 1 hs h (by omega)]
  simp only [Option.bind_some, toList_lst, lst_arr]
  generalize rdTake (lst s) r 1 = t
  obtain ⟨l, q⟩ := t
  cases l with
  | nil => rfl
  | cons c l =>
    have hc := u8_lt c
    rw [if_neg (by simp), if_pos (by rw [size_arr]; simp)]
    simp only [bt_zero]
    rw [wrap64_of (by omega) (by omega)]
theorem wire_Reader_Num.ev (s : ByteArray) (r : Rd) (hs : s.size < 4611686018427387904) :
    Ev (fun k => wire_Reader_Num.f k s r.a r.e r.f) ((rdNum (lst s) r).1, s, (rdNum (lst s) r).2.a, (rdNum (lst s) r).2.e, (rdNum (lst s) r).2.f) := by
  unfold wire_Reader_Num.f wire_Reader_ok.f rdNum
  simp only [Option.bind_some]
  by_cases c : r.e = 0
  · rw [if_pos c]
    refine evYes (by simpa using c) ?_
    refine Ev.bind (varint_Take.ev s r.a hs) ?_
    by_cases c2 : (takeL (lst s) r.a).2.2 = 0
    · simp only [if_pos c2]
      exact Ev.now _
    · simp only [if_neg c2]
      exact Ev.now _
  · rw [if_neg c]
    exact evNo (by simpa using c) (Ev.now _)
theorem wire_Reader_Text.ev (s : ByteArray) (r : Rd) (hs : s.size < 4611686018427387904) (h : r.ok (lst s)) :
    Ev (fun k => wire_Reader_Text.f k s r.a r.e r.f) (arr (rdText (lst s) r).1, s, (rdText (lst s) r).2.a, (rdText (lst s) r).2.e, (rdText (lst s) r).2.f) := by
  unfold wire_Reader_Text.f wire_Reader_ok.f rdText
  simp only [Option.bind_some]
  by_cases c : r.e = 0
  · rw [if_pos c]
    refine evYes (by simpa using c) ?_
    refine Ev.bind (wire_Reader_Num.ev s r hs) ?_
    have hn := rdNum_nonneg (lst s) r
    have hk := rdNum_ok h
    generalize rdNum (lst s) r = q at *
    obtain ⟨n, q⟩ := q
    simp only at hn hk ⊢
    by_cases c2 : q.e = 0
    · rw [if_pos c2]
      refine evYes (by simpa using c2) ?_
      simp only [wire_Reader_take.eq s q n r.a hs hk (by omega), Option.bind_some]
      exact Ev.now _
    · rw [if_neg c2]
      exact evNo (by simpa using c2) (Ev.now _)
  · rw [if_neg c]
    exact evNo (by simpa using c) (Ev.now _)
theorem rTake (s : ByteArray) (a e f n : Int) {l : List UInt8} {a' e' f' : Int} (hs : s.size < 4611686018427387904) (h : Rd.ok (lst s) ⟨a, e, f⟩) (hn : n < 9223372036854775808) (hr : rdTake (lst s) ⟨a, e, f⟩ n = (l, ⟨a', e', f'⟩)) : wire_Reader_Take.f s a e f n = some (arr l, s, a', e', f') := by
  have := wire_Reader_Take.eq s ⟨a, e, f⟩ n hs h hn
  rw [hr] at this
  exact this
theorem rByte (s : ByteArray) (a e f : Int) {n : Int} {a' e' f' : Int} (hs : s.size < 4611686018427387904) (h : Rd.ok (lst s) ⟨a, e, f⟩) (hr : rdByte (lst s) ⟨a, e, f⟩ = (n, ⟨a', e', f'⟩)) : wire_Reader_Byte.f s a e f = some (n, s, a', e', f') := by
  have := wire_Reader_Byte.eq s ⟨a, e, f⟩ hs h
  rw [hr] at this
  exact this
theorem rNum (s : ByteArray) (a e f : Int) {n : Int} {a' e' f' : Int} (hs : s.size < 4611686018427387904) (hr : rdNum (lst s) ⟨a, e, f⟩ = (n, ⟨a', e', f'⟩)) : Ev (fun k => wire_Reader_Num.f k s a e f) (n, s, a', e', f') := by
  have := wire_Reader_Num.ev s ⟨a, e, f⟩ hs
  rw [hr] at this
  exact this
theorem rText' (s : ByteArray) (a e f : Int) {l : List UInt8} {a' e' f' : Int} (hs : s.size < 4611686018427387904) (h : Rd.ok (lst s) ⟨a, e, f⟩) (hr : rdText (lst s) ⟨a, e, f⟩ = (l, ⟨a', e', f'⟩)) : Ev (fun k => wire_Reader_Text.f k s a e f) (arr l, s, a', e', f') := by
  have := wire_Reader_Text.ev s ⟨a, e, f⟩ hs h
  rw [hr] at this
  exact this
theorem wire_Text.ev (s : ByteArray) (hs : s.size < 4611686018427387904) : Ev (fun k => wire_Text.f k s) (arr (text (lst s))) := by
  unfold wire_Text.f
  refine Ev.bind (varint_Put.ev (s.size : Int)) ?_
  have h1 := put_len (s.size : Int)
  refine evYes (by rw [size_arr]; omega) ?_
  have e : arr (put (s.size : Int)) ++ s = arr (text (lst s)) := by
    apply lst_inj
    rw [lst_append, lst_arr, lst_arr]
    unfold text
    rw [lst_length]
  rw [e]
  exact Ev.now _
theorem rd_drop {l : List Int} {i : Nat} (h : i < l.length) : l.drop i = rd l i :: l.drop (i + 1) := by
  rw [List.drop_eq_getElem_cons h]
  congr 1
  simp [rd, h]
theorem wire_Nums.l0_ev (l : List Int) (hl : l.length ≤ 1000000000000) (d : Nat) : ∀ (i : Nat) (acc : List UInt8), i + d = l.length → acc.length ≤ 9 * i →
    Ev (fun k => wire_Nums.l0 k l (arr acc) (i : Int)) (arr (((numsO (l.drop i)).map (acc ++ ·)).getD [])) := by
  induction d with
  | zero =>
    intro i acc hi ha
    refine Ev.step (fun k => wire_Nums.l0.eq_2 ..) ?_
    refine evNo (by omega) ?_
    rw [List.drop_eq_nil_of_le (by omega)]
    simp [numsO]
    exact Ev.now _
  | succ d ih =>
    intro i acc hi ha
    refine Ev.step (fun k => wire_Nums.l0.eq_2 ..) ?_
    refine evYes (by omega) (evYes (by omega) ?_)
    refine Ev.bind (varint_Put.ev _) ?_
    rw [rd_drop (show i < l.length by omega)]
    simp only [toList_lst, lst_arr, numsO]
    by_cases c : put (rd l i) = []
    · simp only [if_pos c]
      exact Ev.now _
    · simp only [if_neg c]
      have hp := put_len (rd l i)
      refine evYes (by rw [size_arr, size_arr]; omega) ?_
      have a4 : (i : Int) + 1 = ((i + 1 : Nat) : Int) ∧ (i : Int) + 1 < 9223372036854775808 := by omega
      simp only [arr_append, wrap64_nat' a4.1 a4.2]
      have h2 := ih (i + 1) (acc ++ put (rd l i)) (by omega) (by rw [List.length_append]; omega)
      have e : ((numsO (l.drop (i + 1))).map (put (rd l i) ++ ·)).map (acc ++ ·) = (numsO (l.drop (i + 1))).map ((acc ++ put (rd l i)) ++ ·) := by
        rw [Option.map_map]
        congr 1
        funext x
        simp
      rw [e]
      exact h2
theorem wire_Nums.ev (l : List Int) (hl : l.length ≤ 1000000000000) : Ev (fun k => wire_Nums.f k l) (arr (numsL l)) := by
  have h := wire_Nums.l0_ev l hl l.length 0 [] (by omega) (by simp)
  have e : ((numsO (l.drop 0)).map (([] : List UInt8) ++ ·)).getD [] = numsL l := by
    unfold numsL
    cases h : numsO l <;> simp [h]
  rw [e] at h
  exact h
end Go.Proofs.Ythechcflnkofgaa.Q

/- An event's bytes, and the event at the head of any bytes: plain lists alone. -/
namespace Go.Proofs.Ythechcflnkofgaa.EvA
open Go Go.RowKit Go.Proofs.Ythechcflnkofgaa.Q Go.Proofs.YthechcflnkofgaaW.PrintWords Go.Proofs.YthechcflnkofgaaW.PrintLast Go.Proofs.YthechcflnkofgaaW.PrintMore ShCore

abbrev ES := S24
def zE : ES := ⟨0, 0, [], ⟨#[]⟩⟩
theorem fitsE_iff (a : Int) : fitsE a = true ↔ 0 ≤ a ∧ a < 4611686018427387904 := by
  unfold fitsE
  split <;> simp <;> omega
theorem expE_iff (a : Int) : expE a = true ↔ 128 ≤ a ∧ a < 256 := by
  unfold expE
  split <;> simp <;> omega
theorem fits_put (a : Int) : fitsE a = true ↔ put a ≠ [] := by
  rw [fitsE_iff]
  constructor
  · intro h
    obtain ⟨m, rfl⟩ : ∃ m : Nat, a = m := ⟨a.toNat, by omega⟩
    exact put_len_nat m (by omega)
  · intro h
    obtain ⟨m, rfl, hm, _⟩ := put_ok h
    omega
theorem fits_nat {a : Int} (h : fitsE a = true) : ∃ m : Nat, a = m ∧ m < 4611686018427387904 ∧ put a = putF 8 m := put_ok ((fits_put a).1 h)
theorem any_outE (l : List Int) : l.any outE = false ↔ ∀ a ∈ l, fitsE a = true := by
  simp only [List.any_eq_false, outE, Bool.not_eq_true', Bool.not_eq_false]
/-! ### numbers, one behind the other -/
def argsD : Nat → List UInt8 → List Int × Nat × Nat
  | 0, _ => ([], 0, 0)
  | n + 1, u => if (tkh u).2.2 = 0 then (if (argsD n (u.drop (tkh u).2.1)).2.2 = 0 then (((tkh u).1 : Int) :: (argsD n (u.drop (tkh u).2.1)).1, (tkh u).2.1 + (argsD n (u.drop (tkh u).2.1)).2.1, 0) else ([], 0, (argsD n (u.drop (tkh u).2.1)).2.2)) else ([], 0, (tkh u).2.2)
theorem tkh_errs (l : List UInt8) : (tkh l).2.2 = 0 ∨ (tkh l).2.2 = 10 ∨ (tkh l).2.2 = 11 := by
  rcases tkh_err l with h | h | h
  · exact .inl h
  · rw [h]; exact .inr (.inl rfl)
  · rw [h]; exact .inr (.inr rfl)
theorem argsD_put : ∀ (l : List Int) (rest : List UInt8), (∀ a ∈ l, fitsE a = true) → argsD l.length (l.flatMap put ++ rest) = (l, (l.flatMap put).length, 0)
  | [], rest, _ => rfl
  | a :: l, rest, h => by
    obtain ⟨m, rfl, hm, hp⟩ := fits_nat (h a (by simp))
    have ih := argsD_put l rest (fun b hb => h b (by simp [hb]))
    rw [List.length_cons, List.flatMap_cons, List.append_assoc, hp]
    unfold argsD
    simp only [tkh_put m hm, List.drop_left, ih, if_true, List.length_append]
theorem argsD_cut : ∀ (l : List Int) (c : Nat), (∀ a ∈ l, fitsE a = true) → c < (l.flatMap put).length → argsD l.length ((l.flatMap put).take c) = ([], 0, 10)
  | [], c, _, hc => by simp at hc
  | a :: l, c, h, hc => by
    obtain ⟨m, rfl, hm, hp⟩ := fits_nat (h a (by simp))
    rw [List.length_cons, List.flatMap_cons, hp]
    rw [List.flatMap_cons, hp, List.length_append] at hc
    unfold argsD
    by_cases c1 : c < (putF 8 m).length
    · rw [List.take_append_of_le_length (by omega), tkh_cut m c c1]
      simp
    · have ih := argsD_cut l (c - (putF 8 m).length) (fun b hb => h b (by simp [hb])) (by omega)
      rw [List.take_append, List.take_of_length_le (by omega)]
      simp only [tkh_put m hm, List.drop_left, ih, if_true]
      simp
theorem argsD_back : ∀ (n : Nat) (u : List UInt8), (argsD n u).2.2 = 0 → (argsD n u).1.length = n ∧ (∀ a ∈ (argsD n u).1, fitsE a = true) ∧ (argsD n u).1.flatMap put = u.take (argsD n u).2.1 ∧ (argsD n u).2.1 ≤ u.length
  | 0, u, _ => by simp [argsD]
  | n + 1, u, h => by
    unfold argsD at h ⊢
    by_cases h1 : (tkh u).2.2 = 0
    · rw [if_pos h1] at h ⊢
      by_cases h2 : (argsD n (u.drop (tkh u).2.1)).2.2 = 0
      · rw [if_pos h2]
        obtain ⟨b1, b2, b3, b4, b5, b6⟩ := tkh_back u h1
        obtain ⟨i1, i2, i3, i4⟩ := argsD_back n _ h2
        rw [List.length_drop] at i4
        refine ⟨by simp [i1], ?_, ?_, by simp only; omega⟩
        · intro a ha
          rcases List.mem_cons.1 ha with rfl | ha
          · rw [fitsE_iff]; omega
          · exact i2 a ha
        · simp only [List.flatMap_cons, b1, i3]
          rw [List.take_add]
      · rw [if_neg h2] at h
        exact absurd h h2
    · rw [if_neg h1] at h
      exact absurd h h1
theorem argsD_errs : ∀ (n : Nat) (u : List UInt8), (argsD n u).2.2 = 0 ∨ (argsD n u).2.2 = 10 ∨ (argsD n u).2.2 = 11
  | 0, u => .inl rfl
  | n + 1, u => by
    unfold argsD
    by_cases h1 : (tkh u).2.2 = 0
    · rw [if_pos h1]
      by_cases h2 : (argsD n (u.drop (tkh u).2.1)).2.2 = 0
      · rw [if_pos h2]; exact .inl rfl
      · rw [if_neg h2]; exact argsD_errs n _
    · rw [if_neg h1]; exact tkh_errs u
/-! ### a text -/
def textD (u : List UInt8) : List UInt8 × Nat × Nat :=
  if (tkh u).2.2 = 0 then (if (tkh u).1 ≤ (u.drop (tkh u).2.1).length then ((u.drop (tkh u).2.1).take (tkh u).1, (tkh u).2.1 + (tkh u).1, 0) else ([], 0, 10)) else ([], 0, (tkh u).2.2)
theorem textD_put (t rest : List UInt8) (ht : t.length < 4611686018427387904) : textD (text t ++ rest) = (t, (text t).length, 0) := by
  unfold textD text
  rw [put_nat _ ht, List.append_assoc]
  simp only [tkh_put _ ht, List.drop_left, List.length_append, if_true]
  rw [if_pos (by omega), List.take_left]
theorem textD_cut (t : List UInt8) (c : Nat) (ht : t.length < 4611686018427387904) (hc : c < (text t).length) : textD ((text t).take c) = ([], 0, 10) := by
  unfold text at hc ⊢
  rw [put_nat _ ht] at hc ⊢
  rw [List.length_append] at hc
  unfold textD
  by_cases c1 : c < (putF 8 t.length).length
  · rw [List.take_append_of_le_length (by omega), tkh_cut _ c c1]
    simp
  · rw [List.take_append, List.take_of_length_le (by omega)]
    simp only [tkh_put _ ht, List.drop_left, if_true]
    rw [if_neg (by rw [List.length_take]; omega)]
theorem textD_back (u : List UInt8) (h : (textD u).2.2 = 0) : (textD u).1.length < 4611686018427387904 ∧ text (textD u).1 = u.take (textD u).2.1 ∧ (textD u).2.1 ≤ u.length := by
  unfold textD at h ⊢
  by_cases h1 : (tkh u).2.2 = 0
  · rw [if_pos h1] at h ⊢
    obtain ⟨b1, b2, b3, b4, b5, b6⟩ := tkh_back u h1
    by_cases h2 : (tkh u).1 ≤ (u.drop (tkh u).2.1).length
    · rw [if_pos h2]
      have e : ((u.drop (tkh u).2.1).take (tkh u).1).length = (tkh u).1 := by rw [List.length_take]; omega
      refine ⟨by simp only [e]; omega, ?_, ?_⟩
      · unfold text
        simp only [e, b1]
        rw [List.take_add]
      · rw [List.length_drop] at h2
        simp only
        omega
    · rw [if_neg h2] at h
      simp at h
  · rw [if_neg h1] at h
    exact absurd h h1
theorem textD_errs (u : List UInt8) : (textD u).2.2 = 0 ∨ (textD u).2.2 = 10 ∨ (textD u).2.2 = 11 := by
  unfold textD
  split
  · split
    · exact .inl rfl
    · exact .inr (.inl rfl)
  · exact tkh_errs u
/-! ### an event -/
def encL (a d : Int) (l : List Int) (t : List UInt8) : List UInt8 := UInt8.ofNat a.toNat :: (put d ++ (if expE a = true then text t else l.flatMap put))
def encE (e : ES) : List UInt8 := if mayE e.f0 e.f1 e.f2 e.f3 = true then encL e.f0 e.f1 e.f2 (lst e.f3) else []
def decC (c : UInt8) (u : List UInt8) : ES × Nat × Nat :=
    if Kind.knownB c.toNat = true ∨ expE c.toNat = true then
      (if (tkh u).2.2 = 0 then
        (if expE c.toNat = true then (if (textD (u.drop (tkh u).2.1)).2.2 = 0 then (⟨c.toNat, (tkh u).1, [], arr (textD (u.drop (tkh u).2.1)).1⟩, 1 + (tkh u).2.1 + (textD (u.drop (tkh u).2.1)).2.1, 0) else (zE, 0, (textD (u.drop (tkh u).2.1)).2.2))
        else (if (argsD (Kind.argsL c.toNat).length (u.drop (tkh u).2.1)).2.2 = 0 then (⟨c.toNat, (tkh u).1, (argsD (Kind.argsL c.toNat).length (u.drop (tkh u).2.1)).1, ⟨#[]⟩⟩, 1 + (tkh u).2.1 + (argsD (Kind.argsL c.toNat).length (u.drop (tkh u).2.1)).2.1, 0) else (zE, 0, (argsD (Kind.argsL c.toNat).length (u.drop (tkh u).2.1)).2.2)))
      else (zE, 0, (tkh u).2.2))
    else (zE, 0, 30)
def decS : List UInt8 → ES × Nat × Nat
  | [] => (zE, 0, 10)
  | c :: u => decC c u
theorem decS_cons (c : UInt8) (u : List UInt8) : decS (c :: u) = decC c u := rfl
theorem knownB_iff (k : Int) : Kind.knownB k = true ↔ 1 ≤ k ∧ k ≤ 10 := by simp [Kind.knownB]
/-- What may be. -/
theorem mayE_iff (a d : Int) (l : List Int) (t : ByteArray) : mayE a d l t = true ↔ fitsE d = true ∧ ((expE a = true ∧ l = []) ∨ (expE a = false ∧ Kind.knownB a = true ∧ lst t = [] ∧ l.length = (Kind.argsL a).length ∧ ∀ x ∈ l, fitsE x = true)) := by
  unfold mayE
  by_cases hd : fitsE d = true
  · rw [if_pos hd]
    by_cases hx : expE a = true
    · rw [if_pos hx]
      simp only [hd, hx, true_and, beq_iff_eq, Bool.true_eq_false, false_and, or_false]
      rw [← List.length_eq_zero_iff]
      omega
    · have hx' : expE a = false := by simpa using hx
      rw [if_neg hx]
      simp only [hd, hx', true_and, Bool.and_eq_true, beq_iff_eq, Bool.not_eq_true', any_outE, Bool.false_eq_true, false_and, false_or, toList_lst]
      constructor
      · rintro ⟨⟨⟨h1, h2⟩, h3⟩, h4⟩
        exact ⟨h1, h2, by omega, h4⟩
      · rintro ⟨h1, h2, h3, h4⟩
        exact ⟨⟨⟨h1, h2⟩, by omega⟩, h4⟩
  · rw [if_neg hd]
    simp [hd]
theorem kind_byte {a : Int} (h : Kind.knownB a = true ∨ expE a = true) : ((UInt8.ofNat a.toNat).toNat : Int) = a := by
  rw [knownB_iff, expE_iff] at h
  rw [u8_ofNat _ (by omega)]
  omega
theorem mayE_kind {a d : Int} {l : List Int} {t : ByteArray} (h : mayE a d l t = true) : Kind.knownB a = true ∨ expE a = true := by
  rcases ((mayE_iff ..).1 h).2 with h | h
  · exact .inr h.1
  · exact .inl h.2.1
set_option maxRecDepth 20000 in
theorem decS_enc (e : ES) (rest : List UInt8) (h : mayE e.f0 e.f1 e.f2 e.f3 = true) (ht : e.f3.size < 4611686018427387904) : decS (encE e ++ rest) = (e, (encE e).length, 0) := by
  obtain ⟨a, d, l, t⟩ := e
  simp only at h ht
  unfold encE
  simp only [h, if_true]
  have hk := mayE_kind h
  have hb := kind_byte hk
  obtain ⟨hd, hcs⟩ := (mayE_iff ..).1 h
  obtain ⟨m, rfl, hm, hp⟩ := fits_nat hd
  unfold encL
  rw [List.cons_append, List.append_assoc]
  rw [decS_cons]
  unfold decC
  rw [hb, if_pos hk, hp]
  simp only [tkh_put m hm, List.drop_left, if_true]
  by_cases hx : expE a = true
  · have hl0 : l = [] := hcs.elim (fun h => h.2) (fun h => absurd (hx.symm.trans h.1) (by simp))
    subst hl0
    simp only [hx, if_true, textD_put (lst t) rest (by rw [lst_length]; exact ht), List.length_cons, List.length_append, Prod.mk.injEq, and_true]
    refine ⟨by rw [arr_lst], by omega⟩
  · have hr := hcs.resolve_left (fun h => hx h.1)
    have hx := hr.1
    have ht0 := hr.2.2.1
    have hl := hr.2.2.2.1
    have hall := hr.2.2.2.2
    simp only [hx, Bool.false_eq_true, if_false, ← hl, argsD_put l rest hall, if_true, List.length_cons, List.length_append, Prod.mk.injEq, and_true]
    refine ⟨by rw [show t = ⟨#[]⟩ from lst_inj ht0], by omega⟩
set_option maxRecDepth 20000 in
theorem decS_cut (e : ES) (c : Nat) (h : mayE e.f0 e.f1 e.f2 e.f3 = true) (ht : e.f3.size < 4611686018427387904) (hc : c < (encE e).length) : decS ((encE e).take c) = (zE, 0, 10) := by
  obtain ⟨a, d, l, t⟩ := e
  simp only at h ht
  unfold encE at hc ⊢
  simp only [h, if_true] at hc ⊢
  have hk := mayE_kind h
  have hb := kind_byte hk
  obtain ⟨hd, hcs⟩ := (mayE_iff ..).1 h
  obtain ⟨m, rfl, hm, hp⟩ := fits_nat hd
  unfold encL at hc ⊢
  cases c with
  | zero => rfl
  | succ c =>
    rw [List.take_succ_cons]
    rw [decS_cons]
    unfold decC
    rw [List.length_cons, List.length_append, hp] at hc
    rw [hb, if_pos hk, hp]
    by_cases c1 : c < (putF 8 m).length
    · rw [List.take_append_of_le_length (by omega), tkh_cut m c c1]
      simp
    · rw [List.take_append, List.take_of_length_le (by omega)]
      simp only [tkh_put m hm, List.drop_left, if_true]
      by_cases hx : expE a = true
      · have hl0 : l = [] := hcs.elim (fun h => h.2) (fun h => absurd (hx.symm.trans h.1) (by simp))
        subst hl0
        rw [if_pos hx] at hc
        simp only [hx, if_true]
        rw [textD_cut (lst t) _ (by rw [lst_length]; exact ht) (by omega)]
        simp
      · have hr := hcs.resolve_left (fun h => hx h.1)
        have hx := hr.1
        have ht0 := hr.2.2.1
        have hl := hr.2.2.2.1
        have hall := hr.2.2.2.2
        rw [if_neg (by simp [hx])] at hc
        simp only [hx, Bool.false_eq_true, if_false, ← hl]
        rw [argsD_cut l _ hall (by omega)]
        simp
theorem decS_back (u : List UInt8) (h : (decS u).2.2 = 0) : mayE (decS u).1.f0 (decS u).1.f1 (decS u).1.f2 (decS u).1.f3 = true ∧ encE (decS u).1 = u.take (decS u).2.1 ∧ (decS u).2.1 ≤ u.length ∧ 1 ≤ (decS u).2.1 ∧ (decS u).1.f3.size < 4611686018427387904 := by
  suffices h' : mayE (decS u).1.f0 (decS u).1.f1 (decS u).1.f2 (decS u).1.f3 = true ∧ encL (decS u).1.f0 (decS u).1.f1 (decS u).1.f2 (lst (decS u).1.f3) = u.take (decS u).2.1 ∧ (decS u).2.1 ≤ u.length ∧ 1 ≤ (decS u).2.1 ∧ (decS u).1.f3.size < 4611686018427387904 by
    refine ⟨h'.1, ?_, h'.2.2⟩
    unfold encE
    rw [if_pos h'.1]
    exact h'.2.1
  cases u with
  | nil => simp [decS] at h
  | cons c u =>
    rw [decS_cons] at h ⊢
    unfold decC at h ⊢
    by_cases hk : Kind.knownB c.toNat = true ∨ expE c.toNat = true
    · rw [if_pos hk] at h ⊢
      by_cases h1 : (tkh u).2.2 = 0
      · rw [if_pos h1] at h ⊢
        obtain ⟨b1, b2, b3, b4, b5, b6⟩ := tkh_back u h1
        have hf : fitsE ((tkh u).1 : Int) = true := (fitsE_iff _).2 (by omega)
        have hcc : UInt8.ofNat ((c.toNat : Int)).toNat = c := by simp
        by_cases hx : expE c.toNat = true
        · rw [if_pos hx] at h ⊢
          by_cases h2 : (textD (u.drop (tkh u).2.1)).2.2 = 0
          · rw [if_pos h2]
            obtain ⟨t1, t2, t3⟩ := textD_back _ h2
            rw [List.length_drop] at t3
            refine ⟨(mayE_iff ..).2 ⟨hf, .inl ⟨hx, rfl⟩⟩, ?_, by simp only [List.length_cons]; omega, by simp only; omega, by simp only [size_arr]; exact t1⟩
            simp only [encL, hcc, hx, if_true, lst_arr, b1, t2]
            rw [show 1 + (tkh u).2.1 + (textD (u.drop (tkh u).2.1)).2.1 = ((tkh u).2.1 + (textD (u.drop (tkh u).2.1)).2.1) + 1 by omega, List.take_succ_cons, List.take_add]
          · rw [if_neg h2] at h
            exact absurd h h2
        · have hx' : expE c.toNat = false := by simpa using hx
          rw [if_neg hx] at h ⊢
          by_cases h2 : (argsD (Kind.argsL c.toNat).length (u.drop (tkh u).2.1)).2.2 = 0
          · rw [if_pos h2]
            obtain ⟨t0, t1, t2, t3⟩ := argsD_back _ _ h2
            rw [List.length_drop] at t3
            refine ⟨(mayE_iff ..).2 ⟨hf, .inr ⟨hx', hk.resolve_right hx, rfl, t0, t1⟩⟩, ?_, by simp only [List.length_cons]; omega, by simp only; omega, by show (0 : Nat) < _; omega⟩
            simp only [encL, hcc, hx', Bool.false_eq_true, if_false, b1, t2]
            rw [show 1 + (tkh u).2.1 + (argsD (Kind.argsL c.toNat).length (u.drop (tkh u).2.1)).2.1 = ((tkh u).2.1 + (argsD (Kind.argsL c.toNat).length (u.drop (tkh u).2.1)).2.1) + 1 by omega, List.take_succ_cons, List.take_add]
          · rw [if_neg h2] at h
            exact absurd h h2
      · rw [if_neg h1] at h
        exact absurd h h1
    · rw [if_neg hk] at h
      simp at h
theorem decS_errs (u : List UInt8) : (decS u).2.2 = 0 ∨ decS u = (zE, 0, 10) ∨ decS u = (zE, 0, 11) ∨ decS u = (zE, 0, 30) := by
  cases u with
  | nil => exact .inr (.inl rfl)
  | cons c u =>
    rw [decS_cons]
    unfold decC
    by_cases hk : Kind.knownB c.toNat = true ∨ expE c.toNat = true
    · rw [if_pos hk]
      by_cases h1 : (tkh u).2.2 = 0
      · rw [if_pos h1]
        by_cases hx : expE c.toNat = true
        · rw [if_pos hx]
          by_cases h2 : (textD (u.drop (tkh u).2.1)).2.2 = 0
          · rw [if_pos h2]; exact .inl rfl
          · rw [if_neg h2]
            rcases textD_errs (u.drop (tkh u).2.1) with h | h | h
            · exact absurd h h2
            · rw [h]; exact .inr (.inl rfl)
            · rw [h]; exact .inr (.inr (.inl rfl))
        · rw [if_neg hx]
          by_cases h2 : (argsD (Kind.argsL c.toNat).length (u.drop (tkh u).2.1)).2.2 = 0
          · rw [if_pos h2]; exact .inl rfl
          · rw [if_neg h2]
            rcases argsD_errs (Kind.argsL c.toNat).length (u.drop (tkh u).2.1) with h | h | h
            · exact absurd h h2
            · rw [h]; exact .inr (.inl rfl)
            · rw [h]; exact .inr (.inr (.inl rfl))
      · rw [if_neg h1]
        rcases tkh_errs u with h | h | h
        · exact absurd h h1
        · rw [h]; exact .inr (.inl rfl)
        · rw [h]; exact .inr (.inr (.inl rfl))
    · rw [if_neg hk]; exact .inr (.inr (.inr rfl))
end Go.Proofs.Ythechcflnkofgaa.EvA

/- What the program's event functions come to, by plain lists of bytes. For every input within the machine's sizes. -/
set_option linter.unusedVariables false
set_option linter.unusedSimpArgs false
namespace Go.Proofs.Ythechcflnkofgaa.EvB
open Go Go.RowKit Go.Proofs.Ythechcflnkofgaa.Q Go.Proofs.YthechcflnkofgaaW.PrintWords Go.Proofs.YthechcflnkofgaaW.PrintLast Go.Proofs.YthechcflnkofgaaW.PrintMore ShCore EvA

theorem wf_small {a : Int} (h0 : -9223372036854775808 ≤ a) (h1 : a ≤ 9223372036854775807) : (Lit.int .i64 a).wf = true := by
  simp only [Lit.wf, decide_eq_true_eq, Bool.and_eq_true]
  exact ⟨h0, h1⟩
theorem wf_byte (c : UInt8) : (Lit.int .i64 (c.toNat : Int)).wf = true := by
  have := u8_lt c
  exact wf_small (by omega) (by omega)
theorem known_f {a : Int} (h : (Lit.int .i64 a).wf = true) : kind_Known.f a = some (Kind.knownB a) := by unfold kind_Known.f; rw [if_pos h]
theorem args_f {a : Int} (h : (Lit.int .i64 a).wf = true) : kind_Args.f a = some (Kind.argsL a) := by unfold kind_Args.f; rw [if_pos h]
theorem may_f {a : Int} (h : (Lit.int .i64 a).wf = true) (d : Int) (l : List Int) (t : ByteArray) : event_May.f a d l t = some (mayE a d l t) := by unfold event_May.f; rw [if_pos h]
/-! ### the bytes -/
theorem size_append' (a b : ByteArray) : (a ++ b).size = a.size + b.size := by rw [← lst_length, lst_append, List.length_append, lst_length, lst_length]
theorem numsL_fit {l : List Int} (h : ∀ a ∈ l, fitsE a = true) : numsL l = l.flatMap put := by
  rcases numsL_cases l with ⟨⟨n, hn, hp⟩, _⟩ | ⟨_, h2⟩
  · exact absurd hp ((fits_put n).1 (h n hn))
  · exact h2
theorem nums_size (l : List Int) : (numsL l).length ≤ 9 * l.length := by
  unfold numsL
  cases h : numsO l with
  | none => simp
  | some b => exact nums_len l b h
theorem head_byte {a : Int} (hk : Kind.knownB a = true ∨ expE a = true) : strOfNums [a % 256] = arr [UInt8.ofNat a.toNat] := by
  have hb := kind_byte hk
  have e : a % 256 = ((UInt8.ofNat a.toNat).toNat : Int) := by
    rw [hb]
    rw [knownB_iff, expE_iff] at hk
    omega
  rw [e]
  exact strOfNums_bytes [_]
theorem Encode.ev (e : ES) (hw : (Lit.int .i64 e.f0).wf = true) (ht : e.f3.size < 4611686018427387904) : Ev (fun k => event_Encode.f k e.f0 e.f1 e.f2 e.f3) (arr (encE e)) := by
  obtain ⟨a, d, l, t⟩ := e
  simp only at hw ht
  unfold event_Encode.f encE
  simp only [may_f hw, Option.bind_some]
  cases hm : mayE a d l t with
  | false => exact evNo (by simp) (evC (by simp [arr]))
  | true =>
    have hk := mayE_kind hm
    have hcs := ((mayE_iff ..).1 hm).2
    have hp9 := put_len d
    simp only [if_true, head_byte hk]
    refine Ev.bind (varint_Put.ev d) ?_
    refine evYes (by rw [size_arr, size_arr, List.length_singleton]; omega) ?_
    simp only [expE_f, Option.bind_some]
    by_cases hx : expE a = true
    · refine evYes hx ?_
      have h9 := text_len (lst t)
      rw [lst_length] at h9
      refine Ev.bind (wire_Text.ev t (by omega)) ?_
      refine evYes (by rw [size_append', size_arr, size_arr, size_arr, List.length_singleton]; omega) ?_
      refine evC ?_
      rw [arr_append, arr_append]
      unfold encL
      rw [if_pos hx]
      simp
    · refine evNo hx ?_
      have hall := (hcs.resolve_left (fun h => hx h.1)).2.2.2.2
      have h9 := nums_size l
      have hl3 := (hcs.resolve_left (fun h => hx h.1)).2.2.2.1
      have ha3 := Kind.argsL_length a
      refine Ev.bind (wire_Nums.ev l (by omega)) ?_
      refine evYes (by rw [size_append', size_arr, size_arr, size_arr, List.length_singleton]; omega) ?_
      refine evC ?_
      rw [arr_append, arr_append, numsL_fit hall]
      unfold encL
      rw [if_neg hx]
      simp
/-! ### reading -/
theorem takeL_pos (s : List UInt8) (q : Nat) (hq : q ≤ s.length) : takeL s (q : Int) = if (tkh (s.drop q)).2.2 = 0 then (((tkh (s.drop q)).1 : Int), ((q + (tkh (s.drop q)).2.1 : Nat) : Int), 0) else (0, 0, (((tkh (s.drop q)).2.2 : Nat) : Int)) := by
  unfold takeL
  rw [if_neg (by omega)]
  simp only [Int.toNat_natCast, Int.natCast_add]
theorem rdNum_pos (s : List UInt8) (q : Nat) (hq : q ≤ s.length) (f : Int) : rdNum s ⟨q, 0, f⟩ = if (tkh (s.drop q)).2.2 = 0 then (((tkh (s.drop q)).1 : Int), ⟨((q + (tkh (s.drop q)).2.1 : Nat) : Int), 0, f⟩) else (0, ⟨q, (((tkh (s.drop q)).2.2 : Nat) : Int), q⟩) := by
  unfold rdNum
  simp only [if_true, takeL_pos s q hq]
  by_cases h : (tkh (s.drop q)).2.2 = 0
  · simp [h]
  · simp [h]
theorem rdText_pos (s : List UInt8) (q : Nat) (hq : q ≤ s.length) (f : Int) : rdText s ⟨q, 0, f⟩ = if (textD (s.drop q)).2.2 = 0 then ((textD (s.drop q)).1, ⟨((q + (textD (s.drop q)).2.1 : Nat) : Int), 0, f⟩) else ([], ⟨q, (((textD (s.drop q)).2.2 : Nat) : Int), q⟩) := by
  unfold rdText
  simp only [if_true]
  rw [rdNum_pos s q hq f]
  unfold textD
  by_cases h : (tkh (s.drop q)).2.2 = 0
  · obtain ⟨b1, b2, b3, b4, b5, b6⟩ := tkh_back _ h
    rw [List.length_drop] at b4
    rw [if_pos h, if_pos h]
    simp only [if_true]
    unfold rdTake0
    rw [if_neg (by omega), List.drop_drop, List.length_drop]
    by_cases h2 : (tkh (s.drop q)).1 ≤ s.length - (q + (tkh (s.drop q)).2.1)
    · rw [if_neg (by simp only; omega), if_pos h2]
      simp only [Int.toNat_natCast, Prod.mk.injEq, true_and, Rd.mk.injEq, and_true, if_true]
      omega
    · rw [if_pos (by simp only; omega), if_neg h2]
      simp
  · rw [if_neg h, if_neg h]
    simp [h]
theorem read_stuck (u : ByteArray) (hu : u.size < 4611686018427387904) (a e f : Int) (he : e ≠ 0) (kd dt : Int) (tx : ByteArray) (n : Nat) (hn : n ≤ 1000) : ∀ (d i : Nat) (acc : List Int), i + d = n → acc.length ≤ i →
    ∃ l, Ev (fun k => event_read.l0 k (n : Int) (i : Int) u a e f kd dt acc tx) (kd, dt, l, tx, true, u, a, e, f)
  | 0, i, acc, hi, hl => by
    refine ⟨acc, Ev.step (fun k => event_read.l0.eq_2 ..) ?_⟩
    exact evNo (by omega) (Ev.now _)
  | d + 1, i, acc, hi, hl => by
    obtain ⟨l, ih⟩ := read_stuck u hu a e f he kd dt tx n hn d (i + 1) (acc ++ [0]) (by omega) (by simp; omega)
    refine ⟨l, Ev.step (fun k => event_read.l0.eq_2 ..) ?_⟩
    refine evYes (by omega) ?_
    refine Ev.bind (rNum u a e f hu (n := 0) (a' := a) (e' := e) (f' := f) (by unfold rdNum; rw [if_neg he])) ?_
    refine evYes (by omega) ?_
    have e1 : wrap64 ((i : Int) + 1) = ((i + 1 : Nat) : Int) := by rw [wrap64_of (by omega) (by omega)]; omega
    simp only [e1]
    exact ih
theorem read_args (u : ByteArray) (hu : u.size < 4611686018427387904) (f kd dt : Int) (tx : ByteArray) (n : Nat) (hn : n ≤ 1000) : ∀ (d i q : Nat) (acc : List Int), i + d = n → acc.length ≤ i → q ≤ (lst u).length →
    ∃ l a' f', Ev (fun k => event_read.l0 k (n : Int) (i : Int) u q 0 f kd dt acc tx) (kd, dt, l, tx, true, u, a', (((argsD d ((lst u).drop q)).2.2 : Nat) : Int), f') ∧
      ((argsD d ((lst u).drop q)).2.2 = 0 → l = acc ++ (argsD d ((lst u).drop q)).1 ∧ a' = ((q + (argsD d ((lst u).drop q)).2.1 : Nat) : Int))
  | 0, i, q, acc, hi, hl, hq => by
    refine ⟨acc, q, f, Ev.step (fun k => event_read.l0.eq_2 ..) ?_, fun _ => by simp [argsD]⟩
    exact evNo (by omega) (Ev.now _)
  | d + 1, i, q, acc, hi, hl, hq => by
    have e1 : wrap64 ((i : Int) + 1) = ((i + 1 : Nat) : Int) := by rw [wrap64_of (by omega) (by omega)]; omega
    have hr := rdNum_pos (lst u) q hq f
    unfold argsD
    by_cases h : (tkh ((lst u).drop q)).2.2 = 0
    · rw [if_pos h] at hr
      obtain ⟨b1, b2, b3, b4, b5, b6⟩ := tkh_back _ h
      rw [List.length_drop] at b4
      obtain ⟨l, a', f', ih, hh⟩ := read_args u hu f kd dt tx n hn d (i + 1) (q + (tkh ((lst u).drop q)).2.1) (acc ++ [((tkh ((lst u).drop q)).1 : Int)]) (by omega) (by simp; omega) (by omega)
      rw [← List.drop_drop] at ih hh
      rw [if_pos h]
      have hev : Ev (fun k => event_read.l0 k (n : Int) (i : Int) u q 0 f kd dt acc tx) (kd, dt, l, tx, true, u, a', (((argsD d (((lst u).drop q).drop (tkh ((lst u).drop q)).2.1)).2.2 : Nat) : Int), f') := by
        refine Ev.step (fun k => event_read.l0.eq_2 ..) ?_
        refine evYes (by omega) ?_
        refine Ev.bind (rNum u q 0 f hu hr) ?_
        refine evYes (by omega) ?_
        simp only [e1]
        exact ih
      by_cases h2 : (argsD d (((lst u).drop q).drop (tkh ((lst u).drop q)).2.1)).2.2 = 0
      · rw [if_pos h2]
        rw [h2] at hev
        refine ⟨l, a', f', hev, fun _ => ?_⟩
        obtain ⟨h3, h4⟩ := hh h2
        refine ⟨by rw [h3]; simp, by rw [h4]; simp only; omega⟩
      · rw [if_neg h2]
        exact ⟨l, a', f', hev, fun h3 => absurd h3 h2⟩
    · rw [if_neg h] at hr
      rw [if_neg h]
      obtain ⟨l, ih⟩ := read_stuck u hu q (((tkh ((lst u).drop q)).2.2 : Nat) : Int) q (by omega) kd dt tx n hn d (i + 1) (acc ++ [0]) (by omega) (by simp; omega)
      refine ⟨l, q, q, ?_, fun h3 => absurd h3 h⟩
      refine Ev.step (fun k => event_read.l0.eq_2 ..) ?_
      refine evYes (by omega) ?_
      refine Ev.bind (rNum u q 0 f hu hr) ?_
      refine evYes (by omega) ?_
      simp only [e1]
      exact ih
/-- What is read, and where the reader stands then. -/
structure ReadAt (u : ByteArray) (q : Int × Int × List Int × ByteArray × Bool × ByteArray × Int × Int × Int) : Prop where
  same : q.2.2.2.2.2.1 = u
  unknown : (decS (lst u)).2.2 = 30 → q.2.2.2.2.1 = false
  known : (decS (lst u)).2.2 ≠ 30 → q.2.2.2.2.1 = true ∧ q.2.2.2.2.2.2.2.1 = (((decS (lst u)).2.2 : Nat) : Int)
  here : (decS (lst u)).2.2 = 0 → (⟨q.1, q.2.1, q.2.2.1, q.2.2.2.1⟩ : ES) = (decS (lst u)).1 ∧ q.2.2.2.2.2.2.1 = (((decS (lst u)).2.1 : Nat) : Int)
theorem rdByte_head (c : UInt8) (l : List UInt8) : rdByte (c :: l) ⟨0, 0, 0⟩ = ((c.toNat : Int), ⟨1, 0, 0⟩) := by
  unfold rdByte rdTake rdTake0
  simp
  rw [if_neg (by omega)]
theorem read_j0 (u : ByteArray) (hu : u.size < 4611686018427387904) (c : UInt8) (l : List UInt8) (hc : lst u = c :: l) (hk : Kind.knownB c.toNat = true ∨ expE c.toNat = true) :
    ∃ q, Ev (fun k => event_read.j0 k false u 1 0 0 c.toNat 0 ⟨#[]⟩) q ∧ ReadAt u q := by
  have hlen : (lst u).length = l.length + 1 := by rw [hc]; rfl
  have hd1 : (lst u).drop 1 = l := by rw [hc]; rfl
  have hn := rdNum_pos (lst u) 1 (by omega) 0
  rw [hd1] at hn
  have hS : decS (lst u) = decC c l := by rw [hc]; rfl
  by_cases h : (tkh l).2.2 = 0
  · rw [if_pos h] at hn
    obtain ⟨b1, b2, b3, b4, b5, b6⟩ := tkh_back _ h
    have hd2 : (lst u).drop (1 + (tkh l).2.1) = l.drop (tkh l).2.1 := by rw [← List.drop_drop, hd1]
    by_cases hx : expE c.toNat = true
    · have ht := rdText_pos (lst u) (1 + (tkh l).2.1) (by omega) 0
      rw [hd2] at ht
      by_cases h2 : (textD (l.drop (tkh l).2.1)).2.2 = 0
      · rw [if_pos h2] at ht
        refine ⟨((c.toNat : Int), ((tkh l).1 : Int), [], arr (textD (l.drop (tkh l).2.1)).1, true, u, ((1 + (tkh l).2.1 + (textD (l.drop (tkh l).2.1)).2.1 : Nat) : Int), 0, 0), Ev.step (fun k => event_read.j0.eq_2 ..) (evNo (by simp) (Ev.bind (rNum u 1 0 0 hu hn) ?_)), ?_⟩
        · simp only [expE_f, Option.bind_some]
          refine evYes hx (Ev.bind (rText' u _ 0 0 hu ⟨by simp only; omega, by simp only; omega⟩ ht) (Ev.now _))
        · have e0 : decC c l = (⟨c.toNat, (tkh l).1, [], arr (textD (l.drop (tkh l).2.1)).1⟩, 1 + (tkh l).2.1 + (textD (l.drop (tkh l).2.1)).2.1, 0) := by
            unfold decC
            rw [if_pos hk, if_pos h, if_pos hx, if_pos h2]
          exact ⟨rfl, fun h3 => by rw [hS, e0] at h3; simp at h3, fun _ => ⟨rfl, by rw [hS, e0]; rfl⟩, fun _ => ⟨by rw [hS, e0], by rw [hS, e0]⟩⟩
      · rw [if_neg h2] at ht
        refine ⟨((c.toNat : Int), ((tkh l).1 : Int), [], arr [], true, u, ((1 + (tkh l).2.1 : Nat) : Int), (((textD (l.drop (tkh l).2.1)).2.2 : Nat) : Int), ((1 + (tkh l).2.1 : Nat) : Int)), Ev.step (fun k => event_read.j0.eq_2 ..) (evNo (by simp) (Ev.bind (rNum u 1 0 0 hu hn) ?_)), ?_⟩
        · simp only [expE_f, Option.bind_some]
          refine evYes hx (Ev.bind (rText' u _ 0 0 hu ⟨by simp only; omega, by simp only; omega⟩ ht) (Ev.now _))
        · have e0 : decC c l = (zE, 0, (textD (l.drop (tkh l).2.1)).2.2) := by
            unfold decC
            rw [if_pos hk, if_pos h, if_pos hx, if_neg h2]
          have h30 : (textD (l.drop (tkh l).2.1)).2.2 ≠ 30 := by have := textD_errs (l.drop (tkh l).2.1); omega
          exact ⟨rfl, fun h3 => by rw [hS, e0] at h3; exact absurd h3 h30, fun _ => ⟨rfl, by rw [hS, e0]⟩, fun h3 => by rw [hS, e0] at h3; exact absurd h3 h2⟩
    · have hx' : expE c.toNat = false := by simpa using hx
      have ha3 := Kind.argsL_length c.toNat
      obtain ⟨al, a', f', hev, hh⟩ := read_args u hu 0 c.toNat (tkh l).1 ⟨#[]⟩ (Kind.argsL c.toNat).length (by omega) (Kind.argsL c.toNat).length 0 (1 + (tkh l).2.1) [] (by omega) (by simp) (by omega)
      rw [hd2] at hev hh
      refine ⟨((c.toNat : Int), ((tkh l).1 : Int), al, ⟨#[]⟩, true, u, a', (((argsD (Kind.argsL c.toNat).length (l.drop (tkh l).2.1)).2.2 : Nat) : Int), f'), Ev.step (fun k => event_read.j0.eq_2 ..) (evNo (by simp) (Ev.bind (rNum u 1 0 0 hu hn) ?_)), ?_⟩
      · simp only [expE_f, args_f (wf_byte c), Option.bind_some]
        exact evNo hx hev
      · by_cases h2 : (argsD (Kind.argsL c.toNat).length (l.drop (tkh l).2.1)).2.2 = 0
        · have e0 : decC c l = (⟨c.toNat, (tkh l).1, (argsD (Kind.argsL c.toNat).length (l.drop (tkh l).2.1)).1, ⟨#[]⟩⟩, 1 + (tkh l).2.1 + (argsD (Kind.argsL c.toNat).length (l.drop (tkh l).2.1)).2.1, 0) := by
            unfold decC
            rw [if_pos hk, if_pos h, if_neg hx, if_pos h2]
          obtain ⟨h3, h4⟩ := hh h2
          refine ⟨rfl, fun h3 => by rw [hS, e0] at h3; simp at h3, fun _ => ⟨rfl, by rw [hS, e0, h2]⟩, fun _ => ⟨?_, ?_⟩⟩
          · rw [hS, e0]
            simp only [h3, List.nil_append]
          · rw [hS, e0]
            exact h4
        · have e0 : decC c l = (zE, 0, (argsD (Kind.argsL c.toNat).length (l.drop (tkh l).2.1)).2.2) := by
            unfold decC
            rw [if_pos hk, if_pos h, if_neg hx, if_neg h2]
          have h30 : (argsD (Kind.argsL c.toNat).length (l.drop (tkh l).2.1)).2.2 ≠ 30 := by have := argsD_errs (Kind.argsL c.toNat).length (l.drop (tkh l).2.1); omega
          exact ⟨rfl, fun h3 => by rw [hS, e0] at h3; exact absurd h3 h30, fun _ => ⟨rfl, by rw [hS, e0]⟩, fun h3 => by rw [hS, e0] at h3; exact absurd h3 h2⟩
  · rw [if_neg h] at hn
    have he0 : (((tkh l).2.2 : Nat) : Int) ≠ 0 := by omega
    have e0 : decC c l = (zE, 0, (tkh l).2.2) := by
      unfold decC
      rw [if_pos hk, if_neg h]
    have h30 : (tkh l).2.2 ≠ 30 := by have := tkh_errs l; omega
    have fin : ∀ q : Int × Int × List Int × ByteArray × Bool × ByteArray × Int × Int × Int, q.2.2.2.2.2.1 = u → q.2.2.2.2.1 = true → q.2.2.2.2.2.2.2.1 = (((tkh l).2.2 : Nat) : Int) → ReadAt u q := fun q h1 h2 h4 =>
      ⟨h1, fun h3 => by rw [hS, e0] at h3; exact absurd h3 h30, fun _ => ⟨h2, by rw [hS, e0]; exact h4⟩, fun h3 => by rw [hS, e0] at h3; exact absurd h3 h⟩
    by_cases hx : expE c.toNat = true
    · refine ⟨((c.toNat : Int), 0, [], arr [], true, u, ((1 : Nat) : Int), (((tkh l).2.2 : Nat) : Int), ((1 : Nat) : Int)), Ev.step (fun k => event_read.j0.eq_2 ..) (evNo (by simp) (Ev.bind (rNum u 1 0 0 hu hn) ?_)), ?_⟩
      · simp only [expE_f, Option.bind_some]
        refine evYes hx (Ev.bind (rText' u _ _ _ hu (l := []) (a' := ((1 : Nat) : Int)) (e' := (((tkh l).2.2 : Nat) : Int)) (f' := ((1 : Nat) : Int)) ⟨by simp only; omega, by simp only; omega⟩ ?_) (Ev.now _))
        unfold rdText
        rw [if_neg he0]
      · exact fin _ rfl rfl rfl
    · have ha3 := Kind.argsL_length c.toNat
      obtain ⟨al, hev⟩ := read_stuck u hu ((1 : Nat) : Int) (((tkh l).2.2 : Nat) : Int) ((1 : Nat) : Int) he0 c.toNat 0 ⟨#[]⟩ (Kind.argsL c.toNat).length (by omega) (Kind.argsL c.toNat).length 0 [] (by omega) (by simp)
      refine ⟨((c.toNat : Int), 0, al, ⟨#[]⟩, true, u, ((1 : Nat) : Int), (((tkh l).2.2 : Nat) : Int), ((1 : Nat) : Int)), Ev.step (fun k => event_read.j0.eq_2 ..) (evNo (by simp) (Ev.bind (rNum u 1 0 0 hu hn) ?_)), ?_⟩
      · simp only [expE_f, args_f (wf_byte c), Option.bind_some]
        exact evNo hx hev
      · exact fin _ rfl rfl rfl
theorem read_ev (u : ByteArray) (hu : u.size < 4611686018427387904) : ∃ q, Ev (fun k => event_read.f k u 0 0 0) q ∧ ReadAt u q := by
  cases hc : lst u with
  | nil =>
    have hz : ((Kind.argsL 0).length : Int) = ((0 : Nat) : Int) := rfl
    obtain ⟨al, hev⟩ := read_stuck u hu 0 10 0 (by omega) 0 0 ⟨#[]⟩ 0 (by omega) 0 0 [] (by omega) (by simp)
    refine ⟨(0, 0, al, ⟨#[]⟩, true, u, 0, 10, 0), ?_, ⟨rfl, fun h => by rw [hc] at h; simp [decS] at h, fun _ => ⟨rfl, by rw [hc]; rfl⟩, fun h => by rw [hc] at h; simp [decS] at h⟩⟩
    unfold event_read.f
    have hb := rByte u 0 0 0 hu ⟨by simp, by simp⟩ (n := 0) (a' := 0) (e' := 10) (f' := 0) (by rw [hc]; rfl)
    rw [hb]
    simp only [Option.bind_some, wire_Reader_Err.f]
    refine evNo (by omega) ?_
    refine Ev.step (fun k => event_read.j0.eq_2 ..) (evNo (by simp) ?_)
    refine Ev.bind (rNum u 0 10 0 hu (n := 0) (a' := 0) (e' := 10) (f' := 0) (by unfold rdNum; rw [if_neg (by simp)])) ?_
    simp only [expE_f, args_f (wf_small (a := 0) (by omega) (by omega)), Option.bind_some]
    refine evNo (by rw [expE_iff]; omega) ?_
    rw [hz]
    exact hev
  | cons c l =>
    have hb := rByte u 0 0 0 hu ⟨by simp, by simp⟩ (n := (c.toNat : Int)) (a' := 1) (e' := 0) (f' := 0) (by rw [hc]; exact rdByte_head c l)
    have ef : (fun k => event_read.f k u 0 0 0) = fun k => if Kind.knownB c.toNat = true then event_read.j0 k false u 1 0 0 c.toNat 0 ⟨#[]⟩ else event_read.j0 k (!expE c.toNat) u 1 0 0 c.toNat 0 ⟨#[]⟩ := by
      funext k
      unfold event_read.f
      rw [hb]
      simp only [Option.bind_some, wire_Reader_Err.f, if_true, known_f (wf_byte c), expE_f]
    rw [ef]
    by_cases hk : Kind.knownB c.toNat = true
    · obtain ⟨q, h1, h2⟩ := read_j0 u hu c l hc (.inl hk)
      exact ⟨q, evYes hk h1, h2⟩
    · by_cases hx : expE c.toNat = true
      · obtain ⟨q, h1, h2⟩ := read_j0 u hu c l hc (.inr hx)
        refine ⟨q, evNo hk ?_, h2⟩
        rw [hx]
        exact h1
      · have hx' : expE c.toNat = false := by simpa using hx
        have e0 : decS (lst u) = (zE, 0, 30) := by
          rw [hc, decS_cons]
          unfold decC
          rw [if_neg (fun h => h.elim hk hx)]
        refine ⟨((c.toNat : Int), 0, [], ⟨#[]⟩, false, u, 1, 0, 0), evNo hk ?_, ⟨rfl, fun _ => rfl, fun h => by rw [e0] at h; simp at h, fun h => by rw [e0] at h; simp at h⟩⟩
        rw [hx']
        exact Ev.step (fun k => event_read.j0.eq_2 ..) (evYes rfl (Ev.now _))
/-- The event at a place of any bytes, as it is told. -/
def decT (s : List UInt8) (p : Int) : Int × Int × List Int × ByteArray × Int × Int :=
  if p < 0 ∨ p > s.length then (0, 0, [], ⟨#[]⟩, 0, 1) else
    if (decS (s.drop p.toNat)).2.2 = 0 then ((decS (s.drop p.toNat)).1.f0, (decS (s.drop p.toNat)).1.f1, (decS (s.drop p.toNat)).1.f2, (decS (s.drop p.toNat)).1.f3, p + (decS (s.drop p.toNat)).2.1, 0)
    else (0, 0, [], ⟨#[]⟩, 0, ((decS (s.drop p.toNat)).2.2 : Nat))
theorem Decode.ev (s : ByteArray) (p : Int) (hs : s.size < 4611686018427387904) : Ev (fun k => event_Decode.f k s p) (decT (lst s) p) := by
  unfold event_Decode.f decT
  have hl := lst_length s
  by_cases c1 : p < 0
  · refine evYes c1 ?_
    rw [if_pos (.inl c1)]
    exact Ev.step (fun k => event_Decode.j0.eq_2 ..) (evYes rfl (Ev.now _))
  · refine evNo c1 ?_
    by_cases c2 : p > (s.size : Int)
    · rw [decide_eq_true c2, if_pos (.inr (by rw [hl]; exact c2))]
      exact Ev.step (fun k => event_Decode.j0.eq_2 ..) (evYes rfl (Ev.now _))
    · rw [decide_eq_false c2, if_neg (by rw [hl]; omega)]
      refine Ev.step (fun k => event_Decode.j0.eq_2 ..) (evNo (by simp) (evYes (by omega) (evYes (by omega) ?_)))
      have eu : lst (s.extract p.toNat s.size) = (lst s).drop p.toNat := by
        rw [lst_extract, List.take_of_length_le]
        rw [List.length_drop, hl]
        omega
      have hu : (s.extract p.toNat s.size).size < 4611686018427387904 := by
        rw [← lst_length, eu, List.length_drop, hl]
        omega
      obtain ⟨⟨kd, dt, al, tx, kn, u', a, e, f⟩, hev, hR⟩ := read_ev _ hu
      refine Ev.bind (evC (show wire_New.f _ = some (s.extract p.toNat s.size, 0, 0, 0) from rfl)) ?_
      refine Ev.bind hev ?_
      refine Ev.bind (evC (show wire_Reader_Err.f u' a e f = some (e, f, u', a, e, f) from rfl)) ?_
      obtain ⟨r1, r2, r3, r4⟩ := hR
      rw [eu] at r2 r3 r4
      simp only at r1 r2 r3 r4
      by_cases h30 : (decS ((lst s).drop p.toNat)).2.2 = 30
      · have hne : ¬ (decS ((lst s).drop p.toNat)).2.2 = 0 := by omega
        rw [if_neg hne, h30]
        obtain rfl := r2 h30
        exact evNo (by simp) (Ev.now _)
      · obtain ⟨hk, he⟩ := r3 h30
        subst hk
        subst he
        refine evYes rfl ?_
        by_cases h0 : (decS ((lst s).drop p.toNat)).2.2 = 0
        · obtain ⟨h4, h5⟩ := r4 h0
          subst h5
          rw [if_pos h0, ← h4]
          have hb := (decS_back _ h0).2.2.1
          rw [List.length_drop, hl] at hb
          refine evYes (by omega) ?_
          refine Ev.bind (evC (show wire_Reader_At.f u' _ _ f = some (_, u', _, _, f) from rfl)) ?_
          have e1 : wrap64 (p + (((decS ((lst s).drop p.toNat)).2.1 : Nat) : Int)) = p + (((decS ((lst s).drop p.toNat)).2.1 : Nat) : Int) := wrap64_of (by omega) (by omega)
          refine evC ?_
          rw [e1]
        · rw [if_neg h0]
          exact evNo (by omega) (Ev.now _)
end Go.Proofs.Ythechcflnkofgaa.EvB

/- Events held against each other, short events, the calls that the document fixes. For every input. -/
set_option linter.unusedVariables false
set_option linter.unusedSimpArgs false
namespace Go.Proofs.Ythechcflnkofgaa.EvC
open Go Go.RowKit Go.Proofs.Ythechcflnkofgaa.Q Go.Proofs.YthechcflnkofgaaW.PrintWords Go.Proofs.YthechcflnkofgaaW.PrintLast Go.Proofs.YthechcflnkofgaaW.PrintMore ShCore EvA EvB

theorem rdE {l : List ES} {i : Nat} (h : i < l.length) : rd_T24 l (i : Int) = l[i] := by
  unfold rd_T24
  rw [Int.toNat_natCast, List.getD_eq_getElem?_getD, List.getElem?_eq_getElem h]
  rfl
theorem nxt {i : Nat} (h : i < 9223372036854775807) : wrap64 ((i : Int) + 1) = ((i + 1 : Nat) : Int) := by rw [wrap64_of (by omega) (by omega)]; omega
def shortE (e : ES) : Bool := decide (e.f2.length ≤ 20) && decide (e.f3.size ≤ 300)
def shortB (l : List ES) : Bool := l.all shortE && decide (l.length ≤ 60)
theorem Short.l0 (l : List ES) (hl : l.length ≤ 9223372036854775807) : ∀ (d i : Nat), i + d = l.length → Ev (fun k => shuttlecockref04_Short.l0 k l i) ((l.drop i).all shortE && decide (l.length ≤ 60))
  | 0, i, hi => by
    refine Ev.step (fun k => shuttlecockref04_Short.l0.eq_2 ..) (evNo (by omega) (evC ?_))
    rw [List.drop_eq_nil_of_le (by omega)]
    simp only [List.all_nil, Bool.true_and, Option.some.injEq, decide_eq_decide]
    omega
  | d + 1, i, hi => by
    have h : i < l.length := by omega
    have ih := Short.l0 l hl d (i + 1) (by omega)
    refine Ev.step (fun k => shuttlecockref04_Short.l0.eq_2 ..) (evYes (by omega) (evYes (by omega) ?_))
    rw [List.drop_eq_getElem_cons h, List.all_cons, rdE h]
    unfold shortE
    by_cases c1 : ((l[i].f2.length : Int) > 20)
    · refine evYes c1 (evC ?_)
      rw [decide_eq_false (show ¬ l[i].f2.length ≤ 20 by omega)]
      rfl
    · refine evNo c1 ?_
      rw [decide_eq_true (show l[i].f2.length ≤ 20 by omega)]
      by_cases c2 : ((l[i].f3.size : Int) > 300)
      · refine evYes c2 (evC ?_)
        rw [decide_eq_false (show ¬ l[i].f3.size ≤ 300 by omega)]
        rfl
      · refine evNo c2 ?_
        rw [decide_eq_true (show l[i].f3.size ≤ 300 by omega), nxt (by omega)]
        simp only [Bool.true_and, Bool.and_self]
        exact ih
theorem Short.ev (l : List ES) (hl : l.length ≤ 9223372036854775807) : Ev (fun k => shuttlecockref04_Short.f k l) (shortB l) := by
  have h := Short.l0 l hl l.length 0 (by omega)
  rw [List.drop_zero] at h
  exact h
theorem rdI {l : List Int} {i : Nat} (h : i < l.length) : rd l (i : Int) = l[i] := by
  unfold rd
  rw [Int.toNat_natCast, List.getD_eq_getElem?_getD, List.getElem?_eq_getElem h]
  rfl
theorem es_ext {a b : ES} (h0 : a.f0 = b.f0) (h1 : a.f1 = b.f1) (h2 : a.f2 = b.f2) (h3 : lst a.f3 = lst b.f3) : a = b := by
  cases a
  cases b
  simp only at h0 h1 h2 h3
  rw [h0, h1, h2, lst_inj h3]
/-! ### told back -/
theorem decT_enc (pre rest : List UInt8) (e : ES) (h : mayE e.f0 e.f1 e.f2 e.f3 = true) (ht : e.f3.size < 4611686018427387904) : decT (pre ++ encE e ++ rest) (pre.length : Int) = (e.f0, e.f1, e.f2, e.f3, ((pre.length + (encE e).length : Nat) : Int), 0) := by
  unfold decT
  rw [if_neg (by simp only [List.length_append]; omega), Int.toNat_natCast, List.append_assoc, List.drop_left, decS_enc e rest h ht]
  simp
theorem decT_cut (pre : List UInt8) (e : ES) (c : Nat) (h : mayE e.f0 e.f1 e.f2 e.f3 = true) (ht : e.f3.size < 4611686018427387904) (hc : c < (encE e).length) : decT (pre ++ (encE e).take c) (pre.length : Int) = (0, 0, [], ⟨#[]⟩, 0, 10) := by
  unfold decT
  rw [if_neg (by simp only [List.length_append]; omega), Int.toNat_natCast, List.drop_left, decS_cut e c h ht hc]
  simp
theorem enc_inj {a b : ES} (ha : mayE a.f0 a.f1 a.f2 a.f3 = true) (hb : mayE b.f0 b.f1 b.f2 b.f3 = true) (hta : a.f3.size < 4611686018427387904) (htb : b.f3.size < 4611686018427387904) (h : encE a = encE b) : a = b := by
  have h1 := decS_enc a [] ha hta
  have h2 := decS_enc b [] hb htb
  rw [h, h2] at h1
  exact (congrArg Prod.fst h1).symm
theorem dec_wf {u : List UInt8} (h : (decS u).2.2 = 0) : (Lit.int .i64 (decS u).1.f0).wf = true := by
  have hk := mayE_kind (decS_back u h).1
  rw [knownB_iff, expE_iff] at hk
  exact wf_small (by omega) (by omega)
theorem enc_len (e : ES) : (encE e).length ≤ 1 + 9 + (e.f3.size + 9) + 9 * e.f2.length := by
  unfold encE
  split
  · unfold encL
    have h1 := put_len e.f1
    have h2 := text_len (lst e.f3)
    rw [lst_length] at h2
    rw [List.length_cons, List.length_append]
    split
    · omega
    · have : ∀ l : List Int, (l.flatMap put).length ≤ 9 * l.length := fun l => by
        induction l with
        | nil => simp
        | cons a l ih =>
          have := put_len a
          rw [List.flatMap_cons, List.length_append, List.length_cons]
          omega
      have := this e.f2
      omega
  · simp
end Go.Proofs.Ythechcflnkofgaa.EvC
