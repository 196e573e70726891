/- Several texts of this seat, one behind the other (merged by a program of this session: merge.py). -/
import Derived.Test.YtlmmlmmbnfcogaaVw
import Derived.Test.YtlmmlmmbnfcogaaQx5
import Derived.Test.YtlmmlmmbnfcogaaQx2
import Derived.Test.YtlmmlmmbnfcogaaQx12
import Derived.Test.YtlmmlmmbnfcogaaQx13
import Derived.Test.YtlmmlmmbnfcogaaQx4
import Derived.Test.YtlmmlmmbnfcogaaQx3
import Derived.Test.YtlmmlmmbnfcogaaQx6
import Derived.Test.YtlmmlmmbnfcogaaQx14
import Derived.Test.YtlmmlmmbnfcogaaQx18
import Derived.Test.YtlmmlmmbnfcogaaQx11
import Derived.Test.YtlmmlmmbnfcogaaQx8
import Derived.Test.YtlmmlmmbnfcogaaQx9
import Derived.Test.YtlmmlmmbnfcogaaQx7
import Derived.Test.YtlmmlmmbnfcogaaQx20
import Derived.Test.YtlmmlmmbnfcogaaQx19
import Derived.Test.YtlmmlmmbnfcogaaQx15
import Derived.Test.YtlmmlmmbnfcogaaQx17
import Derived.Test.YtlmmlmmbnfcogaaQx16
/- Numbers of variable length as plain lists of bytes: what is put, what is taken, and that each undoes the other. No condition: plain lists and numbers alone, no program in sight. -/
namespace ShCore
open Go Go.RowKit Go.Proofs.YtlmmlmmbnfcogaaW.PrintWords Go.Proofs.YtlmmlmmbnfcogaaW.PrintMore

theorem evYes {α : Type} {c : Prop} [Decidable c] {g f : Nat → Option α} {r : α} (h : c) (k : Ev g r) : Ev (fun n => if c then g n else f n) r := by simpa only [if_pos h] using k
theorem evNo {α : Type} {c : Prop} [Decidable c] {g f : Nat → Option α} {r : α} (h : ¬ c) (k : Ev f r) : Ev (fun n => if c then g n else f n) r := by simpa only [if_neg h] using k
theorem evC {α : Type} {x : Option α} {a : α} (h : x = some a) : Ev (fun _ => x) a := ⟨0, fun _ _ => h⟩

/-! ### bytes -/
abbrev lst (s : ByteArray) : List UInt8 := s.data.toList
def arr (l : List UInt8) : ByteArray := ⟨l.toArray⟩
@[simp] theorem lst_arr (l : List UInt8) : lst (arr l) = l := by simp [lst, arr]
@[simp] theorem arr_lst (s : ByteArray) : arr (lst s) = s := by simp [lst, arr]
theorem lst_length (s : ByteArray) : (lst s).length = s.size := by rw [Array.length_toList]; rfl
theorem size_arr (l : List UInt8) : (arr l).size = l.length := by rw [← lst_length, lst_arr]
theorem lst_inj {a b : ByteArray} (h : lst a = lst b) : a = b := by rw [← arr_lst a, h, arr_lst]
theorem arr_inj {a b : List UInt8} (h : arr a = arr b) : a = b := by rw [← lst_arr a, h, lst_arr]
theorem toList_lst (s : ByteArray) : s.toList = lst s := ByteArray.toList_eq s
theorem lst_append (a b : ByteArray) : lst (a ++ b) = lst a ++ lst b := ByteArray.toList_data_append
theorem arr_append (a b : List UInt8) : arr a ++ arr b = arr (a ++ b) := lst_inj (by rw [lst_append]; simp)
theorem lst_extract (s : ByteArray) (i j : Nat) : lst (s.extract i j) = ((lst s).drop i).take (j - i) := by
  simp [lst, ByteArray.data_extract, List.extract_eq_take_drop]
theorem drop_bt (s : ByteArray) (i : Nat) (h : i < s.size) : ∃ c : UInt8, (lst s).drop i = c :: (lst s).drop (i + 1) ∧ bt s i = c.toNat := by
  have h' : i < (lst s).length := by rw [lst_length]; exact h
  refine ⟨(lst s)[i], List.drop_eq_getElem_cons h', ?_⟩
  unfold bt
  rw [dif_pos (by simpa using h)]
  rfl
theorem u8_ofNat (n : Nat) (h : n < 256) : (UInt8.ofNat n).toNat = n := by simp; omega
theorem u8_lt (c : UInt8) : c.toNat < 256 := c.toNat_lt
theorem u8_ext {a b : UInt8} (h : a.toNat = b.toNat) : a = b := UInt8.toNat_inj.1 h

/-! ### what is put -/
def putF : Nat → Nat → List UInt8
  | 0, n => [UInt8.ofNat n]
  | f + 1, n => if n < 128 then [UInt8.ofNat n] else UInt8.ofNat (128 + n % 128) :: putF f (n / 128)
def put (n : Int) : List UInt8 := if n < 0 ∨ n ≥ 4611686018427387904 then [] else putF 8 n.toNat
/-- What is taken: the value, how many bytes, the error (10 too short, 11 too long). -/
def tk : Nat → Bool → List UInt8 → Nat × Nat × Nat
  | 0, _, _ => (0, 0, 11)
  | _ + 1, _, [] => (0, 0, 10)
  | m + 1, first, c :: l =>
    if 128 ≤ c.toNat then (if (tk m false l).2.2 = 0 then (c.toNat - 128 + 128 * (tk m false l).1, (tk m false l).2.1 + 1, 0) else (0, 0, (tk m false l).2.2))
    else if c.toNat = 0 ∧ first = false then (0, 0, 11) else (c.toNat, 1, 0)
/-- What is taken of a whole text at its begin: the value, how many bytes, the error. -/
def tkh (l : List UInt8) : Nat × Nat × Nat := if (tk 9 true l).2.2 = 0 then (if (tk 9 true l).1 ≥ 4611686018427387904 then (0, 0, 11) else tk 9 true l) else (0, 0, (tk 9 true l).2.2)
def takeL (l : List UInt8) (p : Int) : Int × Int × Int :=
  if p < 0 ∨ p > l.length then (0, 0, 1)
  else if (tkh (l.drop p.toNat)).2.2 = 0 then ((tkh (l.drop p.toNat)).1, p + (tkh (l.drop p.toNat)).2.1, 0) else (0, 0, (tkh (l.drop p.toNat)).2.2)

theorem putF_ne (f n : Nat) : putF f n ≠ [] := by cases f <;> simp [putF]; split <;> simp
theorem putF_len (f n : Nat) : 1 ≤ (putF f n).length ∧ (putF f n).length ≤ f + 1 := by
  induction f generalizing n with
  | zero => simp [putF]
  | succ f ih => simp only [putF]; split
                 · simp
                 · have := ih (n / 128); simp; omega
/-- What was put is taken, whatever stands behind. -/
theorem tk_put (f : Nat) : ∀ (n : Nat) (first : Bool) (rest : List UInt8), n < 128 ^ (f + 1) → (n ≠ 0 ∨ first = true) → ∀ m, f < m → tk m first (putF f n ++ rest) = (n, (putF f n).length, 0) := by
  induction f with
  | zero =>
    intro n first rest hn hf m hm
    obtain ⟨m, rfl⟩ : ∃ q, m = q + 1 := ⟨m - 1, by omega⟩
    have h1 : n < 128 := by simpa using hn
    have h2 := u8_ofNat n (by omega)
    simp only [putF, List.cons_append, tk, h2]
    rw [if_neg (by omega), if_neg]
    · simp
    · rintro ⟨h, h'⟩; rcases hf with hf | hf
      · exact hf h
      · rw [hf] at h'; cases h'
  | succ f ih =>
    intro n first rest hn hf m hm
    obtain ⟨m, rfl⟩ : ∃ q, m = q + 1 := ⟨m - 1, by omega⟩
    by_cases h1 : n < 128
    · have h2 := u8_ofNat n (by omega)
      simp only [putF, if_pos h1, List.cons_append, tk, h2]
      rw [if_neg (by omega), if_neg]
      · simp
      · rintro ⟨h, h'⟩; rcases hf with hf | hf
        · exact hf h
        · rw [hf] at h'; cases h'
    · have h2 := u8_ofNat (128 + n % 128) (by omega)
      have h3 : n / 128 < 128 ^ (f + 1) := by rw [Nat.pow_succ] at hn; exact Nat.div_lt_of_lt_mul (by rw [Nat.mul_comm]; exact hn)
      have h4 := ih (n / 128) false rest h3 (.inl (by omega)) m (by omega)
      simp only [putF, if_neg h1, List.cons_append, tk, h2, h4]
      rw [if_pos (by omega)]
      simp
      omega
/-- Cut off ahead of its end it is too short. -/
theorem tk_cut (f : Nat) : ∀ (n : Nat) (first : Bool) (c : Nat), c < (putF f n).length → ∀ m, f < m → tk m first ((putF f n).take c) = (0, 0, 10) := by
  induction f with
  | zero =>
    intro n first c hc m hm
    obtain ⟨m, rfl⟩ : ∃ q, m = q + 1 := ⟨m - 1, by omega⟩
    obtain rfl : c = 0 := by simp [putF] at hc; omega
    simp [tk]
  | succ f ih =>
    intro n first c hc m hm
    obtain ⟨m, rfl⟩ : ∃ q, m = q + 1 := ⟨m - 1, by omega⟩
    cases c with
    | zero => simp [tk]
    | succ c =>
      by_cases h1 : n < 128
      · simp only [putF, if_pos h1, List.length_singleton] at hc; omega
      · have h2 := u8_ofNat (128 + n % 128) (by omega)
        simp only [putF, if_neg h1, List.length_cons] at hc
        have h4 := ih (n / 128) false c (by omega) m (by omega)
        simp only [putF, if_neg h1, List.take_succ_cons, tk, h2, h4]
        rw [if_pos (by omega)]
        simp
/-- What is taken stood there as it is put. -/
theorem tk_back (m : Nat) : ∀ (first : Bool) (l : List UInt8), (tk m first l).2.2 = 0 → ∀ f, m ≤ f + 1 → l.take (tk m first l).2.1 = putF f (tk m first l).1 ∧ (tk m first l).1 < 128 ^ m ∧ (tk m first l).2.1 ≤ l.length ∧ 1 ≤ (tk m first l).2.1 ∧ (tk m first l).2.1 ≤ m ∧ ((tk m first l).1 ≠ 0 ∨ first = true) := by
  induction m with
  | zero => intro first l h; simp [tk] at h
  | succ m ih =>
    intro first l h f hf
    cases l with
    | nil => simp [tk] at h
    | cons c l =>
      simp only [tk] at h ⊢
      by_cases h1 : 128 ≤ c.toNat
      · rw [if_pos h1] at h ⊢
        by_cases h2 : (tk m false l).2.2 = 0
        · obtain ⟨m', rfl⟩ : ∃ q, m = q + 1 := by cases m with
            | zero => simp [tk] at h2
            | succ q => exact ⟨q, rfl⟩
          obtain ⟨f, rfl⟩ : ∃ q, f = q + 1 := ⟨f - 1, by omega⟩
          obtain ⟨i1, i2, i3, i4, i5, i6⟩ := ih false l h2 f (by omega)
          rw [if_pos h2]
          have hc := u8_lt c
          have h5 : (tk (m' + 1) false l).1 ≠ 0 := by rcases i6 with i6 | i6; exact i6; cases i6
          generalize tk (m' + 1) false l = r at *
          refine ⟨?_, ?_, by simp; omega, by simp, by simp; omega, .inl (by simp; omega)⟩
          · simp only [List.take_succ_cons, putF]
            rw [if_neg (by omega), i1]
            congr 1
            · apply u8_ext; rw [u8_ofNat _ (by omega)]; omega
            · congr 1; omega
          · rw [Nat.pow_succ]; simp only; omega
        · rw [if_neg h2] at h; exact absurd h h2
      · rw [if_neg h1] at h ⊢
        by_cases h2 : c.toNat = 0 ∧ first = false
        · rw [if_pos h2] at h; simp at h
        · rw [if_neg h2]
          refine ⟨?_, ?_, by simp, by simp, by simp, ?_⟩
          · have : [c] = [UInt8.ofNat c.toNat] := by congr 1; apply u8_ext; rw [u8_ofNat _ (u8_lt c)]
            cases f with
            | zero => simp [putF]
            | succ f => simp only [putF, List.take_succ_cons, List.take_zero]; rw [if_pos (by omega)]; exact this
          · have := Nat.one_le_pow m 128 (by omega); rw [Nat.pow_succ]; simp only; omega
          · simp only
            by_cases h3 : c.toNat = 0
            · right; cases first with
              | true => rfl
              | false => exact absurd ⟨h3, rfl⟩ h2
            · exact .inl h3
/-- Only continuing bytes: too short, or too long from m on. -/
theorem tk_more (m : Nat) : ∀ (first : Bool) (l : List UInt8), (∀ c ∈ l.take m, 128 ≤ c.toNat) → tk m first l = if l.length < m then (0, 0, 10) else (0, 0, 11) := by
  induction m with
  | zero => intro first l _; simp [tk]
  | succ m ih =>
    intro first l h
    cases l with
    | nil => simp [tk]
    | cons c l =>
      have h1 := h c (by simp)
      have h2 := ih false l (fun d hd => h d (by simp [hd]))
      simp only [tk, h2, List.length_cons]
      rw [if_pos h1]
      by_cases h3 : l.length < m
      · simp only [if_pos h3, if_pos (show l.length + 1 < m + 1 by omega)]; rfl
      · simp only [if_neg h3, if_neg (show ¬ l.length + 1 < m + 1 by omega)]; rfl
/-! ### the machine's arithmetic -/
theorem wraps_i64' (n : Int) (h₀ : 0 ≤ n) (h₁ : n < 2 ^ 63) : IntKind.i64.wrap n = n := by rw [IntKind.wrap_i64]; omega
theorem and127 (x : Int) (h0 : 0 ≤ x) (h1 : x < 2 ^ 63) : Go.bits .and .i64 x 127 = x % 128 := bits_mask .i64 63 (by decide) wraps_i64' 7 (by decide) x h0 h1
theorem bits_or_comm (k : IntKind) (x y : Int) : Go.bits .or k x y = Go.bits .or k y x := by simp [Go.bits, BitVec.or_comm]
theorem or_128 (y : Int) (h0 : 0 ≤ y) (h1 : y < 128) : Go.bits .or .i64 y 128 = 128 + y := by
  rw [bits_or_comm]
  exact bits_join .i64 63 (by decide) wraps_i64' 7 128 y (by decide) (by decide) (by decide) h0 h1 (by omega)
theorem put_byte (n : Nat) (h : n < 9223372036854775808) : (Go.bits .or .i64 (Go.bits .and .i64 (n : Int) 127) 128) % 256 = ((UInt8.ofNat (128 + n % 128)).toNat : Int) := by
  rw [and127 _ (by omega) (by omega), or_128 _ (by omega) (by omega), u8_ofNat _ (by omega)]
  omega
theorem and_byte (c : UInt8) : Go.bits .and .i64 (c.toNat : Int) 127 = ((c.toNat % 128 : Nat) : Int) := by
  have := u8_lt c
  rw [and127 _ (by omega) (by omega)]
  omega
theorem last_byte (n : Nat) (h : n < 128) : (n : Int) % 256 = ((UInt8.ofNat n).toNat : Int) := by rw [u8_ofNat _ (by omega)]; omega
theorem pow128 (i : Nat) : (2 : Nat) ^ (7 * i) = 128 ^ i := by rw [Nat.pow_mul]
theorem pow128_le {i : Nat} (hi : i ≤ 8) : (128 : Nat) ^ i ≤ 72057594037927936 := by
  have := Nat.pow_le_pow_right (n := 128) (by omega) hi
  simpa using this
theorem shl7 (i c : Nat) (hi : i ≤ 8) (hc : c < 128) : shl .i64 (c : Int) (7 * (i : Int)) = ((c * 128 ^ i : Nat) : Int) := by
  unfold shl
  have h1 : min (7 * (i : Int)).toNat IntKind.i64.bits = 7 * i := by
    have : IntKind.i64.bits = 64 := rfl
    rw [this]; omega
  have h2 : (2 : Int) ^ (7 * i) = ((128 ^ i : Nat) : Int) := by rw [← pow128]; simp
  rw [h1, h2]
  have h3 := pow128_le hi
  have h4 : c * 128 ^ i ≤ 127 * 72057594037927936 := Nat.mul_le_mul (by omega) h3
  rw [show (c : Int) * ((128 ^ i : Nat) : Int) = ((c * 128 ^ i : Nat) : Int) by simp]
  exact wraps_i64' _ (by omega) (by omega)
theorem or_shl (i acc c : Nat) (hi : i ≤ 8) (ha : acc < 128 ^ i) (hc : c < 128) : Go.bits .or .i64 (acc : Int) (shl .i64 (c : Int) (7 * (i : Int))) = ((acc + c * 128 ^ i : Nat) : Int) := by
  rw [shl7 i c hi hc, bits_or_comm]
  have h3 := pow128_le hi
  have h4 : c * 128 ^ i ≤ 127 * 72057594037927936 := Nat.mul_le_mul (by omega) h3
  have h5 : ((128 ^ i : Nat) : Int) = 2 ^ (7 * i) := by rw [← pow128]; simp
  rw [bits_join .i64 63 (by decide) wraps_i64' (7 * i) ((c * 128 ^ i : Nat) : Int) (acc : Int) (by omega) ?_ (by omega) (by omega) (by rw [← h5]; exact_mod_cast ha) (by omega)]
  · omega
  · rw [← h5]
    have : (c * 128 ^ i) % 128 ^ i = 0 := Nat.mul_mod_left _ _
    exact_mod_cast this
theorem tdiv128 (n : Nat) : Int.tdiv (n : Int) 128 = ((n / 128 : Nat) : Int) := by rw [Int.tdiv_eq_ediv_of_nonneg (by omega)]; omega
theorem tmod128 (n : Nat) : Int.tmod (n : Int) 128 = ((n % 128 : Nat) : Int) := by rw [Int.tmod_eq_emod_of_nonneg (by omega)]; omega
theorem strOfNums_bytes (l : List UInt8) : strOfNums (l.map fun c => (c.toNat : Int)) = arr l := by
  apply lst_inj
  simp only [strOfNums, lst, arr, List.map_map]
  rw [List.map_congr_left (g := id) (fun c _ => by simp)]
  simp

/-! ### another way to take: count, add, put again -/
def lead : List UInt8 → Nat
  | [] => 0
  | c :: l => if 128 ≤ c.toNat then lead l + 1 else 0
def sumF : List UInt8 → Nat
  | [] => 0
  | c :: l => c.toNat % 128 + 128 * sumF l
theorem lead_le (l : List UInt8) : lead l ≤ l.length := by
  induction l with
  | nil => simp [lead]
  | cons c l ih => simp only [lead]; split <;> simp <;> omega
theorem lead_more (l : List UInt8) : ∀ m, m ≤ lead l → ∀ c ∈ l.take m, 128 ≤ c.toNat := by
  induction l with
  | nil => intro m _ c hc; simp at hc
  | cons d l ih =>
    intro m hm c hc
    cases m with
    | zero => simp at hc
    | succ m =>
      simp only [lead] at hm
      split at hm
      · rename_i h
        rcases List.mem_cons.1 (by simpa using hc) with rfl | h2
        · exact h
        · exact ih m (by omega) c h2
      · omega
theorem tk_lead (l : List UInt8) : ∀ (m : Nat) (first : Bool) (h : lead l < l.length), lead l < m → tk m first l = if (l[lead l]'h).toNat = 0 ∧ (0 < lead l ∨ first = false) then (0, 0, 11) else (sumF (l.take (lead l + 1)), lead l + 1, 0) := by
  induction l with
  | nil => intro m first h; simp [lead] at h
  | cons c l ih =>
    intro m first h hm
    obtain ⟨m, rfl⟩ : ∃ q, m = q + 1 := ⟨m - 1, by omega⟩
    by_cases h1 : 128 ≤ c.toNat
    · have e : lead (c :: l) = lead l + 1 := by simp [lead, h1]
      have h' : lead l < l.length := by rw [e] at h; simp at h; exact h
      have h2 := ih m false h' (by omega)
      simp only [e, List.getElem_cons_succ]
      simp only [tk, if_pos h1, h2]
      by_cases h3 : (l[lead l]'h').toNat = 0
      · simp [h3]
      · simp only [h3, false_and, if_false, if_true, List.take_succ_cons, sumF]
        have := u8_lt c
        refine Prod.ext (by simp only; omega) rfl
    · have e : lead (c :: l) = 0 := by simp [lead, h1]
      simp only [e, List.getElem_cons_zero]
      simp only [tk, if_neg h1]
      have h5 : c.toNat % 128 = c.toNat := by omega
      simp [sumF, h5]
theorem lead_take (l : List UInt8) (h : lead l < l.length) : lead (l.take (lead l + 1)) = lead l := by
  induction l with
  | nil => simp [lead] at h
  | cons c l ih =>
    by_cases h1 : 128 ≤ c.toNat
    · have e : lead (c :: l) = lead l + 1 := by simp [lead, h1]
      have h' : lead l < l.length := by rw [e] at h; simp at h; exact h
      rw [e, List.take_succ_cons]
      simp only [lead, if_pos h1, ih h']
    · have e : lead (c :: l) = 0 := by simp [lead, h1]
      simp [lead, h1]
theorem put_nat (n : Nat) (h : n < 4611686018427387904) : put (n : Int) = putF 8 n := by unfold put; rw [if_neg (by omega)]; simp
theorem put_big (n : Int) (h : 4611686018427387904 ≤ n) : put n = [] := by unfold put; rw [if_pos (by omega)]
theorem tkh_lead (l : List UInt8) (h : lead l < l.length) (h8 : lead l ≤ 8) : tkh l = if put (sumF (l.take (lead l + 1)) : Nat) = l.take (lead l + 1) then (sumF (l.take (lead l + 1)), lead l + 1, 0) else (0, 0, 11) := by
  have h1 := tk_lead l 9 true h (by omega)
  have hne : l.take (lead l + 1) ≠ [] := by
    intro e
    have := congrArg List.length e
    rw [List.length_take, List.length_nil] at this
    omega
  by_cases hz : (l[lead l]'h).toNat = 0 ∧ (0 < lead l ∨ true = false)
  · rw [if_pos hz] at h1
    have e1 : tkh l = (0, 0, 11) := by simp [tkh, h1]
    rw [e1, if_neg]
    intro e
    by_cases hb : sumF (l.take (lead l + 1)) < 4611686018427387904
    · rw [put_nat _ hb] at e
      have h2 := tk_put 8 (sumF (l.take (lead l + 1))) true [] (by omega) (.inr rfl) 9 (by omega)
      rw [List.append_nil, e] at h2
      have h3 := tk_lead (l.take (lead l + 1)) 9 true (by rw [lead_take l h]; simp; omega) (by rw [lead_take l h]; omega)
      have h4 : ((l.take (lead l + 1))[lead (l.take (lead l + 1))]'(by rw [lead_take l h]; simp; omega)) = l[lead l]'h := by
        simp [lead_take l h]
      rw [h4, lead_take l h, if_pos hz, h2] at h3
      simp at h3
    · rw [put_big _ (by omega)] at e
      exact hne e.symm
  · rw [if_neg hz] at h1
    have h2 := tk_back 9 true l (by rw [h1]) 8 (by omega)
    rw [h1] at h2
    simp only at h2
    by_cases hb : sumF (l.take (lead l + 1)) < 4611686018427387904
    · rw [put_nat _ hb, if_pos h2.1.symm]
      simp only [tkh, h1, if_true]
      rw [if_neg (by omega)]
    · rw [put_big _ (by omega), if_neg (fun e => hne e.symm)]
      simp only [tkh, h1, if_true]
      rw [if_pos (by omega)]
theorem tkh_more (l : List UInt8) (h : lead l = l.length ∨ 9 ≤ lead l) : tkh l = if l.length < 9 then (0, 0, 10) else (0, 0, 11) := by
  have h1 := tk_more 9 true l (by
    rcases h with h | h
    · intro c hc
      refine lead_more l (lead l) (Nat.le_refl _) c ?_
      rw [h, List.take_of_length_le (Nat.le_refl _)]
      exact List.mem_of_mem_take hc
    · exact lead_more l 9 h)
  unfold tkh
  rw [h1]
  split <;> simp
theorem wrap64_of {x : Int} (h0 : -9223372036854775808 ≤ x) (h1 : x < 9223372036854775808) : wrap64 x = x := by unfold wrap64; omega
theorem wrap64_nat' {x : Int} {n : Nat} (h : x = n) (h1 : x < 9223372036854775808) : wrap64 x = (n : Int) := by rw [wrap64_of (by omega) h1, h]
/-- What the rest of a take comes to, from place i of the number on, of weight U there. -/
def fin0 (p i acc U : Nat) (r : Nat × Nat × Nat) : Int × Int × Int :=
  if r.2.2 = 0 then (if acc + r.1 * U ≥ 4611686018427387904 then (0, 0, 11) else (((acc + r.1 * U : Nat) : Int), ((p + i + r.2.1 : Nat) : Int), 0)) else (0, 0, r.2.2)
def fin (p i acc : Nat) (r : Nat × Nat × Nat) : Int × Int × Int := fin0 p i acc (128 ^ i) r
theorem fin_succ (p i a : Nat) (r : Nat × Nat × Nat) : fin p (i + 1) a r = fin0 p (i + 1) a (128 ^ i * 128) r := by unfold fin; rw [Nat.pow_succ]
theorem fin_now (p i a : Nat) (r : Nat × Nat × Nat) : fin p i a r = fin0 p i a (128 ^ i) r := by unfold fin; rfl
theorem fin0_err (p i acc U : Nat) (r : Nat × Nat × Nat) (h : r.2.2 ≠ 0) : fin0 p i acc U r = (0, 0, (r.2.2 : Int)) := by unfold fin0; rw [if_neg h]
theorem fin0_next (p i acc U : Nat) (c : UInt8) (h : 128 ≤ c.toNat) (r : Nat × Nat × Nat) : fin0 p i acc U (if r.2.2 = 0 then (c.toNat - 128 + 128 * r.1, r.2.1 + 1, 0) else (0, 0, r.2.2)) = fin0 p (i + 1) (acc + c.toNat % 128 * U) (U * 128) r := by
  by_cases h3 : r.2.2 = 0
  · rw [if_pos h3]
    unfold fin0
    simp only [h3, if_true]
    have hc := u8_lt c
    have e9 : acc + (c.toNat - 128 + 128 * r.1) * U = acc + c.toNat % 128 * U + r.1 * (U * 128) := by
      rw [show c.toNat - 128 = c.toNat % 128 by omega, Nat.add_mul, ← Nat.add_assoc]
      congr 1
      rw [Nat.mul_comm 128 r.1, Nat.mul_assoc, Nat.mul_comm 128]
    rw [e9, show p + i + (r.2.1 + 1) = p + (i + 1) + r.2.1 by omega]
  · rw [if_neg h3, fin0_err _ _ _ _ r h3, fin0_err _ _ _ _ (0, 0, r.2.2) h3]
theorem fin_tkh (p : Nat) (l : List UInt8) : fin p 0 0 (tk 9 true l) = if (tkh l).2.2 = 0 then (((tkh l).1 : Int), (p : Int) + (tkh l).2.1, 0) else (0, 0, ((tkh l).2.2 : Int)) := by
  unfold fin fin0 tkh
  by_cases h : (tk 9 true l).2.2 = 0
  · simp only [h, if_true, Nat.pow_zero, Nat.mul_one, Nat.zero_add, Nat.add_zero]
    by_cases h2 : (tk 9 true l).1 ≥ 4611686018427387904
    · rw [if_pos h2, if_pos h2]; rfl
    · rw [if_neg h2, if_neg h2, if_pos h]
      simp
  · simp only [h, if_false]
theorem put_byte_sum (n : Nat) : (wrap64 (128 + ((n % 128 : Nat) : Int))) % 256 = ((UInt8.ofNat (128 + n % 128)).toNat : Int) := by
  rw [u8_ofNat _ (by omega), wrap64_of (by omega) (by omega)]
  omega
theorem wrap64_div (n : Nat) (h : n < 9223372036854775808) : wrap64 ((n / 128 : Nat) : Int) = ((n / 128 : Nat) : Int) := wrap64_of (by omega) (by omega)
/-! ### whole numbers, at the begin of a text and anywhere in it -/
theorem tkh_put (n : Nat) (h : n < 4611686018427387904) (rest : List UInt8) : tkh (putF 8 n ++ rest) = (n, (putF 8 n).length, 0) := by
  have h1 := tk_put 8 n true rest (by omega) (.inr rfl) 9 (by omega)
  unfold tkh
  rw [h1]
  simp only [if_true]
  rw [if_neg (by omega)]
theorem tkh_cut (n : Nat) (c : Nat) (hc : c < (putF 8 n).length) : tkh ((putF 8 n).take c) = (0, 0, 10) := by
  have h1 := tk_cut 8 n true c hc 9 (by omega)
  unfold tkh
  rw [h1]
  simp
theorem tkh_back (l : List UInt8) (h : (tkh l).2.2 = 0) : put ((tkh l).1 : Nat) = l.take (tkh l).2.1 ∧ putF 8 (tkh l).1 = l.take (tkh l).2.1 ∧ (tkh l).1 < 4611686018427387904 ∧ (tkh l).2.1 ≤ l.length ∧ 1 ≤ (tkh l).2.1 ∧ (tkh l).2.1 ≤ 9 := by
  unfold tkh at h ⊢
  by_cases h1 : (tk 9 true l).2.2 = 0
  · rw [if_pos h1] at h ⊢
    by_cases h2 : (tk 9 true l).1 ≥ 4611686018427387904
    · rw [if_pos h2] at h; simp at h
    · rw [if_neg h2]
      have h3 := tk_back 9 true l h1 8 (by omega)
      refine ⟨?_, h3.1.symm, by omega, h3.2.2.1, h3.2.2.2.1, h3.2.2.2.2.1⟩
      rw [put_nat _ (by omega), h3.1]
  · rw [if_neg h1] at h; exact absurd h h1
theorem put_ok {n : Int} (h : put n ≠ []) : ∃ m : Nat, n = m ∧ m < 4611686018427387904 ∧ put n = putF 8 m := by
  by_cases h0 : n < 0 ∨ n ≥ 4611686018427387904
  · exfalso; apply h; unfold put; rw [if_pos h0]
  · obtain ⟨m, rfl⟩ := Int.eq_ofNat_of_zero_le (show 0 ≤ n by omega)
    exact ⟨m, rfl, by omega, put_nat m (by omega)⟩
theorem put_len (n : Int) : (put n).length ≤ 9 := by
  unfold put
  split
  · simp
  · have := putF_len 8 n.toNat; omega
theorem takeL_put {n : Int} (h : put n ≠ []) (pre rest : List UInt8) : takeL (pre ++ put n ++ rest) pre.length = (n, (pre.length : Int) + ((put n).length : Int), (0 : Int)) := by
  obtain ⟨m, rfl, hm, e⟩ := put_ok h
  unfold takeL
  rw [if_neg (by simp; omega), Int.toNat_natCast, List.append_assoc, List.drop_left, e, tkh_put m hm]
  simp
theorem takeL_back (l : List UInt8) (p : Int) (h : (takeL l p).2.2 = 0) : 0 ≤ p ∧ ∃ u : Nat, (takeL l p).2.1 = p + u ∧ 1 ≤ u ∧ u ≤ 9 ∧ p.toNat + u ≤ l.length ∧ put (takeL l p).1 = (l.drop p.toNat).take u := by
  unfold takeL at h ⊢
  by_cases h0 : p < 0 ∨ p > l.length
  · rw [if_pos h0] at h; simp at h
  · rw [if_neg h0] at h ⊢
    by_cases h1 : (tkh (l.drop p.toNat)).2.2 = 0
    · rw [if_pos h1]
      obtain ⟨b1, _, b2, b3, b4, b5⟩ := tkh_back _ h1
      rw [List.length_drop] at b3
      exact ⟨by omega, (tkh (l.drop p.toNat)).2.1, rfl, b4, b5, by omega, b1⟩
    · rw [if_neg h1] at h; simp at h; omega
end ShCore

/- What varint's printed functions come to, by the plain lists of bytes. For every input. -/
namespace Go.Proofs.Ytlmmlmmbnfcogaa.Q
open Go Go.RowKit Go.Proofs.YtlmmlmmbnfcogaaW.PrintWords Go.Proofs.YtlmmlmmbnfcogaaW.PrintLast Go.Proofs.YtlmmlmmbnfcogaaW.PrintMore ShCore

theorem varint_Put.l0_ev (f : Nat) : ∀ (n : Nat) (acc : List Int), n < 128 ^ (f + 1) → n < 9223372036854775808 → acc.length + f < 1000 →
    Ev (fun k => varint_Put.l0 k n acc) (strOfNums (acc ++ (putF f n).map fun c => (c.toNat : Int))) := by
  induction f with
  | zero =>
    intro n acc hn _ hl
    have h1 : n < 128 := by simpa using hn
    refine Ev.step (f := fun _ => some _) (fun k => ?_) (Ev.now _)
    simp only [varint_Put.l0]
    rw [if_neg (by omega), if_pos (by omega), last_byte n h1]
    rfl
  | succ f ih =>
    intro n acc hn hb hl
    by_cases h1 : n < 128
    · refine Ev.step (f := fun _ => some _) (fun k => ?_) (Ev.now _)
      simp only [varint_Put.l0]
      rw [if_neg (by omega), if_pos (by omega), last_byte n h1]
      simp only [putF, if_pos h1]
      rfl
    · have h3 : n / 128 < 128 ^ (f + 1) := by rw [Nat.pow_succ] at hn; exact Nat.div_lt_of_lt_mul (by rw [Nat.mul_comm]; exact hn)
      have h2 := ih (n / 128) (acc ++ [((UInt8.ofNat (128 + n % 128)).toNat : Int)]) h3 (by omega) (by simp; omega)
      refine Ev.step (fun k => ?_) (r := _) (f := fun k => varint_Put.l0 k ((n / 128 : Nat) : Int) (acc ++ [((UInt8.ofNat (128 + n % 128)).toNat : Int)])) ?_
      · simp only [varint_Put.l0]
        rw [if_pos (by omega), if_pos (by omega), put_byte n hb]
        rfl
      · simp only [putF, if_neg h1, List.map_cons]
        rw [List.append_assoc] at h2
        exact h2
theorem varint_Put.ev (n : Int) : Ev (fun k => varint_Put.f k n) (arr (put n)) := by
  have e0 : (⟨#[]⟩ : ByteArray) = arr [] := rfl
  by_cases h0 : n < 0
  · have e : put n = [] := by unfold put; rw [if_pos (.inl h0)]
    rw [e]
    refine Ev.step (f := fun _ => some _) (fun k => ?_) (Ev.now _)
    unfold varint_Put.f
    rw [if_pos h0]
    rfl
  · by_cases h1 : n ≥ 4611686018427387904
    · have e : put n = [] := by unfold put; rw [if_pos (.inr h1)]
      rw [e]
      refine Ev.step (f := fun _ => some _) (fun k => ?_) (Ev.now _)
      unfold varint_Put.f
      rw [if_neg h0]
      simp only [varint_Put.j0, decide_eq_true h1]
      rfl
    · obtain ⟨m, rfl⟩ := Int.eq_ofNat_of_zero_le (show 0 ≤ n by omega)
      rw [put_nat m (by omega)]
      have h2 := varint_Put.l0_ev 8 m [] (by omega) (by omega) (by simp)
      rw [List.nil_append, strOfNums_bytes] at h2
      refine Ev.step (fun k => ?_) h2
      unfold varint_Put.f
      rw [if_neg h0]
      simp only [varint_Put.j0, decide_eq_false h1]
      rfl

theorem varint_Take.l0_ev (s : ByteArray) (p : Nat) (hp : p ≤ s.size) (hs : s.size < 4611686018427387904) (lim : Nat) (hlim : lim = min 9 (s.size - p)) (d : Nat) : ∀ (i acc : Nat), i + d = lim → acc < 128 ^ i →
    Ev (fun k => varint_Take.l0 k s p acc lim i) (fin p i acc (tk (9 - i) (i == 0) ((lst s).drop (p + i)))) := by
  have hlen := lst_length s
  induction d with
  | zero =>
    intro i acc hi ha
    refine Ev.step (f := fun _ => some _) (fun k => ?_) (Ev.now _)
    simp only [varint_Take.l0]
    rw [if_neg (by omega)]
    have a1 : (s.size : Int) - p = ((s.size - p : Nat) : Int) ∧ (s.size : Int) - p < 9223372036854775808 := by omega
    rw [wrap64_nat' a1.1 a1.2]
    by_cases h9 : s.size - p < 9
    · rw [if_pos (by omega)]
      obtain ⟨q, hq⟩ : ∃ q, 9 - i = q + 1 := ⟨8 - i, by omega⟩
      have hd : (lst s).drop (p + i) = [] := List.drop_eq_nil_of_le (by omega)
      rw [hq, hd]
      rfl
    · rw [if_neg (by omega)]
      rw [show 9 - i = 0 by omega]
      rfl
  | succ d ih =>
    intro i acc hi ha
    have hlt : p + i < s.size := by omega
    obtain ⟨c, hc, hb⟩ := drop_bt s (p + i) hlt
    obtain ⟨q, hq⟩ : ∃ q, 9 - i = q + 1 := ⟨8 - i, by omega⟩
    have hc8 := u8_lt c
    have hU := pow128_le (show i ≤ 8 by omega)
    have hV : c.toNat % 128 * 128 ^ i ≤ 127 * 128 ^ i := Nat.mul_le_mul_right _ (by omega)
    have hcm : c.toNat % 128 < 128 := by clear hU hV ha; omega
    have hi8 : i ≤ 8 := by clear hU hV ha; omega
    have e7 := or_shl i acc (c.toNat % 128) hi8 ha hcm
    have eP : 128 ^ (i + 1) = 128 ^ i * 128 := Nat.pow_succ ..
    have e6 := and_byte c
    have eF : ∀ r, fin p i acc r = fin0 p i acc (128 ^ i) r := fin_now p i acc
    have eG : ∀ a r, fin p (i + 1) a r = fin0 p (i + 1) a (128 ^ i * 128) r := fin_succ p i
    rw [eF]
    generalize 128 ^ i = U at hU hV ha e7 eP eF eG
    have a1 : (p : Int) + i = ((p + i : Nat) : Int) ∧ (p : Int) + i < 9223372036854775808 := by omega
    have a2 : (c.toNat : Int) < 9223372036854775808 := by omega
    have a3 : -9223372036854775808 ≤ 7 * (i : Int) ∧ 7 * (i : Int) < 9223372036854775808 := by omega
    have a4 : (i : Int) + 1 = ((i + 1 : Nat) : Int) ∧ (i : Int) + 1 < 9223372036854775808 := by omega
    have a5 : ((p + i : Nat) : Int) + 1 = ((p + i + 1 : Nat) : Int) ∧ ((p + i : Nat) : Int) + 1 < 9223372036854775808 := by omega
    rw [hq, hc]
    by_cases h1 : 128 ≤ c.toNat
    · have h2 := ih (i + 1) (acc + c.toNat % 128 * U) (by omega) (by rw [eP]; omega)
      refine Ev.step (fun k => ?_) (f := fun k => varint_Take.l0 k s p ((acc + c.toNat % 128 * U : Nat) : Int) lim ((i + 1 : Nat) : Int)) ?_
      · simp only [varint_Take.l0, wrap64_nat' a1.1 a1.2, hb, wrap64_nat' rfl a2, wrap64_of a3.1 a3.2, wrap64_nat' a4.1 a4.2, e6, e7]
        rw [if_pos (by omega), if_pos (by omega), if_pos (by omega), if_pos (by omega), if_pos (by omega)]
      · rw [eG, show 9 - (i + 1) = q by omega, show (i + 1 == 0) = false from rfl, show p + (i + 1) = p + i + 1 by omega] at h2
        simp only [tk, if_pos h1]
        have e8 := fin0_next p i acc U c h1 (tk q false ((lst s).drop (p + i + 1)))
        rw [e8]
        exact h2
    · refine Ev.step (f := fun _ => some _) (fun k => ?_) (Ev.now _)
      have e8 : c.toNat % 128 = c.toNat := by omega
      rw [e8] at hV e6 e7
      simp only [varint_Take.l0, wrap64_nat' a1.1 a1.2, hb, wrap64_nat' rfl a2, wrap64_of a3.1 a3.2, wrap64_nat' a4.1 a4.2, wrap64_nat' a5.1 a5.2, e6, e7]
      rw [if_pos (by omega), if_pos (by omega), if_pos (by omega), if_pos (by omega), if_neg (by omega)]
      simp only [tk, if_neg h1]
      by_cases hz : c.toNat = 0
      · rw [if_pos (by omega)]
        by_cases hi0 : i = 0
        · subst hi0
          rw [if_neg (by omega), if_neg (by omega), if_neg (by omega), if_neg (by simp)]
          simp [fin0, hz]
          omega
        · rw [if_pos (by omega), if_pos ⟨hz, by simp; omega⟩]
          rfl
      · have hz' : ¬ (c.toNat = 0 ∧ (i == 0) = false) := fun h => hz h.1
        rw [if_neg (by omega), if_neg hz']
        unfold fin0
        simp only [if_true]
        by_cases hm : acc + c.toNat * U ≥ 4611686018427387904
        · rw [if_pos (by omega), if_pos hm]
        · rw [if_neg (by omega), if_neg (by omega), if_neg hm]
theorem varint_Take.ev (s : ByteArray) (p : Int) (hs : s.size < 4611686018427387904) : Ev (fun k => varint_Take.f k s p) (takeL (lst s) p) := by
  have hlen := lst_length s
  by_cases h0 : p < 0
  · have e : takeL (lst s) p = (0, 0, 1) := by unfold takeL; rw [if_pos (.inl h0)]
    rw [e]
    refine Ev.step (f := fun _ => some _) (fun k => ?_) (Ev.now _)
    unfold varint_Take.f
    rw [if_pos h0]
    rfl
  · by_cases h1 : p > (s.size : Int)
    · have e : takeL (lst s) p = (0, 0, 1) := by unfold takeL; rw [if_pos (.inr (by omega))]
      rw [e]
      refine Ev.step (f := fun _ => some _) (fun k => ?_) (Ev.now _)
      unfold varint_Take.f
      rw [if_neg h0]
      simp only [varint_Take.j0, decide_eq_true h1]
      rfl
    · obtain ⟨q, rfl⟩ := Int.eq_ofNat_of_zero_le (show 0 ≤ p by omega)
      have e : takeL (lst s) (q : Int) = fin q 0 0 (tk 9 true ((lst s).drop q)) := by
        unfold takeL
        rw [if_neg (by omega), fin_tkh]
        simp
      rw [e]
      have h2 := varint_Take.l0_ev s q (by omega) hs (min 9 (s.size - q)) rfl (min 9 (s.size - q)) 0 0 (by omega) (by simp)
      refine Ev.step (fun k => ?_) h2
      unfold varint_Take.f
      rw [if_neg h0]
      simp only [varint_Take.j0, decide_eq_false h1]
      have e2 : mn 9 (wrap64 ((s.size : Int) - q)) = ((min 9 (s.size - q) : Nat) : Int) := by unfold mn wrap64; split <;> omega
      rw [e2]
      rfl
end Go.Proofs.Ytlmmlmmbnfcogaa.Q

/- What the document's varint functions come to, by the plain lists of bytes. For every input. -/
namespace Go.Proofs.Ytlmmlmmbnfcogaa.Q
open Go Go.RowKit Go.Proofs.YtlmmlmmbnfcogaaW.PrintWords Go.Proofs.YtlmmlmmbnfcogaaW.PrintLast Go.Proofs.YtlmmlmmbnfcogaaW.PrintMore ShCore

theorem shuttlecockref01_Put.l0_ev (f : Nat) : ∀ (n : Nat) (acc : List Int), n < 128 ^ (f + 1) → n < 9223372036854775808 → acc.length + f < 1000 →
    Ev (fun k => shuttlecockref01_Put.l0 k n acc) (strOfNums (acc ++ (putF f n).map fun c => (c.toNat : Int))) := by
  induction f with
  | zero =>
    intro n acc hn _ hl
    have h1 : n < 128 := by simpa using hn
    refine Ev.step (f := fun _ => some _) (fun k => ?_) (Ev.now _)
    simp only [shuttlecockref01_Put.l0]
    rw [if_neg (by omega), if_pos (by omega), last_byte n h1]
    rfl
  | succ f ih =>
    intro n acc hn hb hl
    by_cases h1 : n < 128
    · refine Ev.step (f := fun _ => some _) (fun k => ?_) (Ev.now _)
      simp only [shuttlecockref01_Put.l0]
      rw [if_neg (by omega), if_pos (by omega), last_byte n h1]
      simp only [putF, if_pos h1]
      rfl
    · have h3 : n / 128 < 128 ^ (f + 1) := by rw [Nat.pow_succ] at hn; exact Nat.div_lt_of_lt_mul (by rw [Nat.mul_comm]; exact hn)
      have h2 := ih (n / 128) (acc ++ [((UInt8.ofNat (128 + n % 128)).toNat : Int)]) h3 (by omega) (by simp; omega)
      refine Ev.step (fun k => ?_) (r := _) (f := fun k => shuttlecockref01_Put.l0 k ((n / 128 : Nat) : Int) (acc ++ [((UInt8.ofNat (128 + n % 128)).toNat : Int)])) ?_
      · simp only [shuttlecockref01_Put.l0]
        rw [if_pos (by omega), if_pos (by omega), tdiv128, tmod128, put_byte_sum n, wrap64_div n hb]
      · simp only [putF, if_neg h1, List.map_cons]
        rw [List.append_assoc] at h2
        exact h2
theorem shuttlecockref01_Put.ev (n : Int) : Ev (fun k => shuttlecockref01_Put.f k n) (arr (put n)) := by
  by_cases h0 : n < 0
  · have e : put n = [] := by unfold put; rw [if_pos (.inl h0)]
    rw [e]
    refine Ev.step (f := fun _ => some _) (fun k => ?_) (Ev.now _)
    unfold shuttlecockref01_Put.f
    rw [if_pos h0]
    rfl
  · by_cases h1 : n ≥ 4611686018427387904
    · have e : put n = [] := by unfold put; rw [if_pos (.inr h1)]
      rw [e]
      refine Ev.step (f := fun _ => some _) (fun k => ?_) (Ev.now _)
      unfold shuttlecockref01_Put.f
      rw [if_neg h0]
      simp only [shuttlecockref01_Put.j0, decide_eq_true h1]
      rfl
    · obtain ⟨m, rfl⟩ := Int.eq_ofNat_of_zero_le (show 0 ≤ n by omega)
      rw [put_nat m (by omega)]
      have h2 := shuttlecockref01_Put.l0_ev 8 m [] (by omega) (by omega) (by simp)
      rw [List.nil_append, strOfNums_bytes] at h2
      refine Ev.step (fun k => ?_) h2
      unfold shuttlecockref01_Put.f
      rw [if_neg h0]
      simp only [shuttlecockref01_Put.j0, decide_eq_false h1]
      rfl

end Go.Proofs.Ytlmmlmmbnfcogaa.Q

/- What the document's varint reading comes to, by the plain lists of bytes. For every input. -/
namespace Go.Proofs.Ytlmmlmmbnfcogaa.Q
open Go Go.RowKit Go.Proofs.YtlmmlmmbnfcogaaW.PrintWords Go.Proofs.YtlmmlmmbnfcogaaW.PrintLast Go.Proofs.YtlmmlmmbnfcogaaW.PrintMore ShCore

/-- The first loop: where the number ends. -/
theorem shuttlecockref01_Take.l0_ev (s : ByteArray) (p : Int) (hs : s.size < 4611686018427387904) (r : Int × Int × Int) : ∀ (l : List UInt8) (q : Nat), (lst s).drop q = l → q ≤ s.size →
    Ev (fun k => shuttlecockref01_Take.j2 k s p ((q + lead l : Nat) : Int)) r → Ev (fun k => shuttlecockref01_Take.l0 k s p (q : Int)) r := by
  have hlen := lst_length s
  intro l
  induction l with
  | nil =>
    intro q hl hq h
    have hq' : q = s.size := by
      have := congrArg List.length hl
      rw [List.length_drop, List.length_nil] at this
      omega
    refine Ev.step (fun k => ?_) h
    simp only [shuttlecockref01_Take.l0]
    rw [if_neg (by omega)]
    rfl
  | cons c l ih =>
    intro q hl hq h
    have hq' : q < s.size := by
      have := congrArg List.length hl
      rw [List.length_drop, List.length_cons] at this
      omega
    obtain ⟨d, hd, hb⟩ := drop_bt s q hq'
    rw [hl] at hd
    injection hd with hd1 hd2
    subst hd1
    by_cases h1 : 128 ≤ c.toNat
    · have h2 := ih (q + 1) hd2.symm (by omega) (by
        have : q + 1 + lead l = q + lead (c :: l) := by simp only [lead, if_pos h1]; omega
        rw [this]; exact h)
      refine Ev.step (fun k => ?_) h2
      simp only [shuttlecockref01_Take.l0]
      have a4 : (q : Int) + 1 = ((q + 1 : Nat) : Int) ∧ (q : Int) + 1 < 9223372036854775808 := by omega
      rw [if_pos (by omega), if_pos (by omega), hb, if_pos (by omega), wrap64_nat' a4.1 a4.2]
    · have e : q + lead (c :: l) = q := by simp [lead, h1]
      rw [e] at h
      refine Ev.step (fun k => ?_) h
      simp only [shuttlecockref01_Take.l0]
      rw [if_pos (by omega), if_pos (by omega), hb, if_neg (by omega)]
/-- What the sum comes to. -/
def sumEnd (p e : Nat) (sl : List UInt8) (n : Nat) : Int × Int × Int := if put n = sl then ((n : Int), ((p + e + 1 : Nat) : Int), 0) else (0, 0, 11)
theorem shuttlecockref01_Take.l1_ev (s : ByteArray) (p e : Nat) (he : p + e < s.size) (he8 : e ≤ 8) (hs : s.size < 4611686018427387904) : ∀ (d i n U : Nat), i + d = e + 1 → n < 128 ^ i → (i ≤ e → U = 128 ^ i) →
    Ev (fun k => shuttlecockref01_Take.l1 k s p ((p + e : Nat) : Int) n U ((p + i : Nat) : Int)) (sumEnd p e (((lst s).drop p).take (e + 1)) (n + sumF ((((lst s).drop p).take (e + 1)).drop i) * 128 ^ i)) := by
  have hlen := lst_length s
  intro d
  induction d with
  | zero =>
    intro i n U hi hn _
    have e1 : (((lst s).drop p).take (e + 1)).drop i = [] := List.drop_eq_nil_of_le (by rw [List.length_take]; omega)
    rw [e1]
    simp only [sumF, Nat.zero_mul, Nat.add_zero]
    have hx : Ev (fun k => shuttlecockref01_Put.f k (n : Int)) (arr (put n)) := shuttlecockref01_Put.ev n
    have a4 : ((p + e : Nat) : Int) + 1 = ((p + e + 1 : Nat) : Int) ∧ ((p + e : Nat) : Int) + 1 < 9223372036854775808 := by omega
    refine Ev.step (f := fun k => (shuttlecockref01_Put.f k (n : Int)).bind fun t => if t.toList = (s.extract p (p + e + 1)).toList then some ((n : Int), ((p + e + 1 : Nat) : Int), (0 : Int)) else some (0, 0, 11)) (fun k => ?_) (Ev.bind hx ?_)
    · simp only [shuttlecockref01_Take.l1]
      rw [if_neg (by omega), if_neg (by omega), wrap64_nat' a4.1 a4.2]
      congr 1
      funext t
      rw [if_pos (by omega), if_pos (by omega), if_pos (by omega)]
      rfl
    · simp only [toList_lst, lst_arr, lst_extract]
      unfold sumEnd
      rw [show p + e + 1 - p = e + 1 by omega]
      by_cases h : put n = ((lst s).drop p).take (e + 1)
      · rw [if_pos h, if_pos h]; exact Ev.now _
      · rw [if_neg h, if_neg h]; exact Ev.now _
  | succ d ih =>
    intro i n U hi hn hU
    obtain ⟨c, hc, hb⟩ := drop_bt s (p + i) (by omega)
    have hc8 := u8_lt c
    have e1 : (((lst s).drop p).take (e + 1)).drop i = c :: (((lst s).drop p).take (e + 1)).drop (i + 1) := by
      rw [List.drop_take, List.drop_drop, hc, show e + 1 - i = (e + 1 - (i + 1)) + 1 by omega, List.take_succ_cons, List.drop_take, List.drop_drop]
      rfl
    rw [e1]
    obtain rfl : U = 128 ^ i := hU (by omega)
    have eP : 128 ^ (i + 1) = 128 ^ i * 128 := Nat.pow_succ ..
    have hPl := pow128_le (show i ≤ 8 by clear hn; omega)
    have hV : c.toNat % 128 * 128 ^ i ≤ 127 * 128 ^ i := Nat.mul_le_mul_right _ (by omega)
    have hP2 : i < e → 128 ^ i * 128 ≤ 72057594037927936 := fun h => by rw [← eP]; exact pow128_le (by omega)
    have h1 := ih (i + 1) (n + c.toNat % 128 * 128 ^ i) (128 ^ (i + 1)) (by omega) (by rw [eP]; omega) (fun _ => rfl)
    have h2 : i = e → Ev (fun k => shuttlecockref01_Take.l1 k s p ((p + e : Nat) : Int) ((n + c.toNat % 128 * 128 ^ i : Nat) : Int) ((128 ^ i : Nat) : Int) ((p + (i + 1) : Nat) : Int)) (sumEnd p e (((lst s).drop p).take (e + 1)) ((n + c.toNat % 128 * 128 ^ i) + sumF ((((lst s).drop p).take (e + 1)).drop (i + 1)) * 128 ^ (i + 1))) :=
      fun h => ih (i + 1) (n + c.toNat % 128 * 128 ^ i) (128 ^ i) (by omega) (by rw [eP]; omega) (fun h' => by omega)
    have e2 : n + sumF (c :: (((lst s).drop p).take (e + 1)).drop (i + 1)) * 128 ^ i = (n + c.toNat % 128 * 128 ^ i) + sumF ((((lst s).drop p).take (e + 1)).drop (i + 1)) * 128 ^ (i + 1) := by
      simp only [sumF]
      rw [eP, Nat.add_mul, ← Nat.add_assoc]
      congr 1
      rw [Nat.mul_comm 128, Nat.mul_assoc, Nat.mul_comm 128]
    rw [e2]
    generalize sumEnd p e (((lst s).drop p).take (e + 1)) ((n + c.toNat % 128 * 128 ^ i) + sumF ((((lst s).drop p).take (e + 1)).drop (i + 1)) * 128 ^ (i + 1)) = R at *
    rw [eP] at h1
    clear e1 e2 eP ih hU
    generalize 128 ^ i = V at *
    generalize eW : c.toNat % 128 * V = W at *
    have a1 : ((n : Int) + ((W : Nat) : Int)) = ((n + W : Nat) : Int) ∧ ((n : Int) + ((W : Nat) : Int)) < 9223372036854775808 := by omega
    have a2 : ((c.toNat % 128 : Nat) : Int) * (V : Int) = ((W : Nat) : Int) ∧ ((c.toNat % 128 : Nat) : Int) * (V : Int) < 9223372036854775808 := by
      have : ((c.toNat % 128 : Nat) : Int) * (V : Int) = ((W : Nat) : Int) := by rw [← eW]; simp
      rw [this]
      omega
    have a3 : ((c.toNat % 128 : Nat) : Int) < 9223372036854775808 := by omega
    have hie : i ≤ e := by omega
    have a4 : ((p + i : Nat) : Int) + 1 = ((p + (i + 1) : Nat) : Int) ∧ ((p + i : Nat) : Int) + 1 < 9223372036854775808 := by omega
    by_cases h3 : i = e
    · refine Ev.step (fun k => ?_) (h2 h3)
      simp only [shuttlecockref01_Take.l1]
      rw [if_pos (by omega), if_pos (by omega), if_pos (by omega), if_neg (by omega), hb, tmod128, wrap64_nat' rfl a3, wrap64_nat' a2.1 a2.2, wrap64_nat' a1.1 a1.2, wrap64_nat' a4.1 a4.2]
    · have a5 : (V : Int) * 128 = ((V * 128 : Nat) : Int) ∧ (V : Int) * 128 < 9223372036854775808 := by omega
      refine Ev.step (fun k => ?_) h1
      simp only [shuttlecockref01_Take.l1]
      rw [if_pos (by omega), if_pos (by omega), if_pos (by omega), if_pos (by omega), hb, tmod128, wrap64_nat' rfl a3, wrap64_nat' a2.1 a2.2, wrap64_nat' a1.1 a1.2, wrap64_nat' a4.1 a4.2, wrap64_nat' a5.1 a5.2]
theorem shuttlecockref01_Take.ev (s : ByteArray) (p : Int) (hs : s.size < 4611686018427387904) : Ev (fun k => shuttlecockref01_Take.f k s p) (takeL (lst s) p) := by
  have hlen := lst_length s
  by_cases h0 : p < 0
  · have e : takeL (lst s) p = (0, 0, 1) := by unfold takeL; rw [if_pos (.inl h0)]
    rw [e]
    refine Ev.step (f := fun _ => some _) (fun k => ?_) (Ev.now _)
    unfold shuttlecockref01_Take.f
    rw [if_pos h0]
    rfl
  · by_cases h1 : p > (s.size : Int)
    · have e : takeL (lst s) p = (0, 0, 1) := by unfold takeL; rw [if_pos (.inr (by omega))]
      rw [e]
      refine Ev.step (f := fun _ => some _) (fun k => ?_) (Ev.now _)
      unfold shuttlecockref01_Take.f
      rw [if_neg h0]
      simp only [shuttlecockref01_Take.j0, decide_eq_true h1]
      rfl
    · obtain ⟨q, rfl⟩ := Int.eq_ofNat_of_zero_le (show 0 ≤ p by omega)
      refine Ev.step (f := fun k => shuttlecockref01_Take.l0 k s q q) (fun k => ?_) ?_
      · unfold shuttlecockref01_Take.f
        rw [if_neg h0]
        simp only [shuttlecockref01_Take.j0, decide_eq_false h1]
        rfl
      refine shuttlecockref01_Take.l0_ev s q hs _ ((lst s).drop q) q rfl (by omega) ?_
      have hll := lead_le ((lst s).drop q)
      have hdl : ((lst s).drop q).length = s.size - q := by rw [List.length_drop, hlen]
      unfold takeL
      rw [if_neg (by omega), Int.toNat_natCast]
      generalize hl : (lst s).drop q = l at *
      have a1 : ((q + lead l : Nat) : Int) - (q : Int) = ((lead l : Nat) : Int) ∧ ((q + lead l : Nat) : Int) - (q : Int) < 9223372036854775808 := by omega
      by_cases hend : q + lead l = s.size
      · have ht := tkh_more l (.inl (by omega))
        rw [ht]
        by_cases h9 : lead l < 9
        · rw [if_pos (show l.length < 9 by omega)]
          refine Ev.step (f := fun k => shuttlecockref01_Take.j3 k s q ((q + lead l : Nat) : Int) true) (fun k => ?_) (Ev.step (f := fun _ => some _) (fun k => ?_) (Ev.now _))
          · simp only [shuttlecockref01_Take.j2]
            rw [if_pos (by omega), wrap64_nat' a1.1 a1.2, decide_eq_true (by omega)]
          · rfl
        · rw [if_neg (show ¬ l.length < 9 by omega)]
          refine Ev.step (f := fun k => shuttlecockref01_Take.j3 k s q ((q + lead l : Nat) : Int) false) (fun k => ?_) (Ev.step (f := fun _ => some _) (fun k => ?_) (Ev.now _))
          · simp only [shuttlecockref01_Take.j2]
            rw [if_pos (by omega), wrap64_nat' a1.1 a1.2, decide_eq_false (by omega)]
          · simp only [shuttlecockref01_Take.j3]
            rw [if_neg (by simp), wrap64_nat' a1.1 a1.2, if_pos (by omega)]
            rfl
      · by_cases h9 : lead l ≤ 8
        · have ht := tkh_lead l (by omega) h9
          rw [ht]
          have hz := shuttlecockref01_Take.l1_ev s q (lead l) (by omega) h9 hs (lead l + 1) 0 0 1 (by omega) (by simp) (fun _ => by simp)
          rw [hl] at hz
          refine Ev.step (f := fun k => shuttlecockref01_Take.j3 k s q ((q + lead l : Nat) : Int) false) (fun k => ?_) (Ev.step (f := fun k => shuttlecockref01_Take.l1 k s q ((q + lead l : Nat) : Int) 0 1 q) (fun k => ?_) ?_)
          · simp only [shuttlecockref01_Take.j2]
            rw [if_neg (by omega)]
          · simp only [shuttlecockref01_Take.j3]
            rw [if_neg (by simp), wrap64_nat' a1.1 a1.2, if_neg (by omega)]
          · simp only [List.drop_zero, Nat.pow_zero, Nat.mul_one, Nat.zero_add] at hz
            unfold sumEnd at hz
            by_cases hp : put ((sumF (l.take (lead l + 1)) : Nat) : Int) = l.take (lead l + 1)
            · rw [if_pos hp] at hz ⊢
              simp only [if_true]
              exact hz
            · rw [if_neg hp] at hz ⊢
              exact hz
        · have ht := tkh_more l (.inr (by omega))
          rw [if_neg (show ¬ l.length < 9 by omega)] at ht
          rw [ht]
          refine Ev.step (f := fun k => shuttlecockref01_Take.j3 k s q ((q + lead l : Nat) : Int) false) (fun k => ?_) (Ev.step (f := fun _ => some _) (fun k => ?_) (Ev.now _))
          · simp only [shuttlecockref01_Take.j2]
            rw [if_neg (by omega)]
          · simp only [shuttlecockref01_Take.j3]
            rw [if_neg (by simp), wrap64_nat' a1.1 a1.2, if_pos (by omega)]
            rfl
end Go.Proofs.Ytlmmlmmbnfcogaa.Q

/- A reader of a text, as plain functions of lists of bytes; texts and numbers, one behind the other. No condition: plain lists and numbers alone, no program in sight. -/
namespace ShCore
open Go Go.RowKit Go.Proofs.YtlmmlmmbnfcogaaW.PrintWords Go.Proofs.YtlmmlmmbnfcogaaW.PrintMore

/-- A reader's place, its error, where the call with the error began. -/
structure Rd where
  a : Int
  e : Int
  f : Int
deriving DecidableEq
def rdTake0 (s : List UInt8) (r : Rd) (n b : Int) : List UInt8 × Rd :=
  if n < 0 then ([], ⟨b, 1, b⟩) else if n > s.length - r.a then ([], ⟨b, 10, b⟩) else ((s.drop r.a.toNat).take n.toNat, ⟨r.a + n, r.e, r.f⟩)
def rdTake (s : List UInt8) (r : Rd) (n : Int) : List UInt8 × Rd := if r.e = 0 then rdTake0 s r n r.a else ([], r)
def rdNum (s : List UInt8) (r : Rd) : Int × Rd :=
  if r.e = 0 then (if (takeL s r.a).2.2 = 0 then ((takeL s r.a).1, ⟨(takeL s r.a).2.1, r.e, r.f⟩) else (0, ⟨r.a, (takeL s r.a).2.2, r.a⟩)) else (0, r)
def rdText (s : List UInt8) (r : Rd) : List UInt8 × Rd :=
  if r.e = 0 then (if (rdNum s r).2.e = 0 then rdTake0 s (rdNum s r).2 (rdNum s r).1 r.a else ([], (rdNum s r).2)) else ([], r)
def Rd.ok (s : List UInt8) (r : Rd) : Prop := 0 ≤ r.a ∧ r.a ≤ s.length
theorem takeL_le (l : List UInt8) (p : Int) (h : (takeL l p).2.2 = 0) : 0 ≤ (takeL l p).2.1 ∧ (takeL l p).2.1 ≤ l.length := by
  obtain ⟨h0, u, e, h1, h9, hl, _⟩ := takeL_back l p h
  omega
theorem rdNum_ok {s : List UInt8} {r : Rd} (h : r.ok s) : (rdNum s r).2.ok s := by
  unfold rdNum
  split
  · split
    · rename_i h1
      exact takeL_le s r.a h1
    · exact h
  · exact h
theorem takeL_nonneg (l : List UInt8) (p : Int) : 0 ≤ (takeL l p).1 ∧ (takeL l p).1 < 4611686018427387904 := by
  unfold takeL
  split
  · simp
  · split
    · rename_i h
      have := (tkh_back _ h).2.2.1
      simp only
      omega
    · simp
theorem rdNum_nonneg (s : List UInt8) (r : Rd) : 0 ≤ (rdNum s r).1 ∧ (rdNum s r).1 < 4611686018427387904 := by
  unfold rdNum
  split
  · split
    · exact takeL_nonneg s r.a
    · simp
  · simp

/-! ### numbers and texts, one behind the other -/
/-- The bytes of numbers; none, if one of them may not be. -/
def numsO : List Int → Option (List UInt8)
  | [] => some []
  | n :: l => if put n = [] then none else (numsO l).map (put n ++ ·)
def numsL (l : List Int) : List UInt8 := (numsO l).getD []
def text (s : List UInt8) : List UInt8 := put s.length ++ s
theorem nums_len : ∀ (l : List Int) (b : List UInt8), numsO l = some b → b.length ≤ 9 * l.length
  | [], b, h => by simp [numsO] at h; subst h; simp
  | n :: l, b, h => by
    simp only [numsO] at h
    split at h
    · cases h
    · obtain ⟨c, hc, rfl⟩ := Option.map_eq_some_iff.1 h
      have := nums_len l c hc
      have := put_len n
      simp
      omega
theorem text_len (s : List UInt8) : (text s).length ≤ s.length + 9 := by
  have := put_len s.length
  unfold text
  rw [List.length_append]
  omega
end ShCore

/- What was written is read, one behind the other; cut off it is too short. Plain lists and numbers alone. -/
namespace ShCore
open Go Go.RowKit Go.Proofs.YtlmmlmmbnfcogaaW.PrintWords Go.Proofs.YtlmmlmmbnfcogaaW.PrintMore

/-! ### pieces, one behind the other -/
def off {α : Type} (f : α → List UInt8) (l : List α) (i : Nat) : List UInt8 := (l.take i).flatMap f
theorem off_all {α : Type} (f : α → List UInt8) (l : List α) : off f l l.length = l.flatMap f := by simp [off]
theorem off_len {α : Type} (f : α → List UInt8) (l : List α) (m : Nat) (h : ∀ x ∈ l, (f x).length ≤ m) (i : Nat) : (off f l i).length ≤ m * i := by
  unfold off
  induction i generalizing l with
  | zero => simp
  | succ i ih =>
    cases l with
    | nil => simp
    | cons x l =>
      rw [List.take_succ_cons, List.flatMap_cons, List.length_append]
      have h1 := h x List.mem_cons_self
      have h2 := ih l (fun y hy => h y (List.mem_cons_of_mem _ hy))
      rw [Nat.mul_add]
      omega
theorem numsO_all : ∀ (l : List Int), (∀ n ∈ l, put n ≠ []) → numsO l = some (l.flatMap put)
  | [], _ => by simp [numsO]
  | n :: l, h => by
    rw [numsO, if_neg (h n List.mem_cons_self), numsO_all l (fun x hx => h x (List.mem_cons_of_mem _ hx))]
    simp
theorem numsO_none : ∀ (l : List Int) (n : Int), n ∈ l → put n = [] → numsO l = none
  | m :: l, n, h, e => by
    rw [numsO]
    split
    · rfl
    · rename_i hm
      rcases List.mem_cons.1 h with rfl | h
      · exact absurd e hm
      · rw [numsO_none l n h e]
        rfl
theorem numsL_cases (l : List Int) : (∃ n ∈ l, put n = []) ∧ numsL l = [] ∨ (∀ n ∈ l, put n ≠ []) ∧ numsL l = l.flatMap put := by
  by_cases h : ∃ n ∈ l, put n = []
  · obtain ⟨n, hn, e⟩ := h
    exact .inl ⟨⟨n, hn, e⟩, by unfold numsL; rw [numsO_none l n hn e]; rfl⟩
  · have h' : ∀ n ∈ l, put n ≠ [] := fun n hn e => h ⟨n, hn, e⟩
    exact .inr ⟨h', by unfold numsL; rw [numsO_all l h']; rfl⟩
/-! ### read where it stands -/
theorem rdNum_at {n : Int} (hn : put n ≠ []) (pre rest : List UInt8) (f : Int) : rdNum (pre ++ put n ++ rest) ⟨pre.length, 0, f⟩ = (n, ⟨(pre.length : Int) + ((put n).length : Int), 0, f⟩) := by
  unfold rdNum
  simp only [takeL_put hn pre rest, if_true]
theorem put_len_nat (n : Nat) (h : n < 4611686018427387904) : put (n : Int) ≠ [] := by
  rw [put_nat n h]
  exact putF_ne 8 n
theorem rdText_at (t : List UInt8) (ht : t.length < 4611686018427387904) (pre rest : List UInt8) (f : Int) : rdText (pre ++ text t ++ rest) ⟨pre.length, 0, f⟩ = (t, ⟨(pre.length : Int) + ((text t).length : Int), 0, f⟩) := by
  have hp := put_len_nat t.length ht
  have e : pre ++ text t ++ rest = pre ++ put (t.length : Int) ++ (t ++ rest) := by simp [text]
  unfold rdText
  simp only [if_true]
  rw [e, rdNum_at hp]
  simp only [if_true, rdTake0]
  rw [if_neg (by omega), if_neg (by simp only [List.length_append]; omega)]
  have e2 : ((pre.length : Int) + ((put (t.length : Int)).length : Int)).toNat = (pre ++ put (t.length : Int)).length := by rw [List.length_append]; omega
  rw [e2, List.drop_left]
  simp only [Int.toNat_natCast, List.take_left]
  refine Prod.ext rfl ?_
  simp only [Rd.mk.injEq, and_self, and_true]
  unfold text
  rw [List.length_append]
  omega
/-! ### cut off -/
def cutInv (pos cut : Nat) (r : Rd) : Prop := (r.e = 0 ∧ r.a = pos ∧ pos ≤ cut) ∨ (r.e = 10 ∧ r.f ≤ cut)
theorem take_in (pre x rest : List UInt8) (cut : Nat) (h : pre.length + x.length ≤ cut) : (pre ++ x ++ rest).take cut = pre ++ x ++ rest.take (cut - (pre.length + x.length)) := by
  rw [List.take_append, List.take_of_length_le (by rw [List.length_append]; exact h), List.length_append]
theorem take_out (pre x rest : List UInt8) (cut : Nat) (h0 : pre.length ≤ cut) (h : cut ≤ pre.length + x.length) : (pre ++ x ++ rest).take cut = pre ++ x.take (cut - pre.length) := by
  rw [List.take_append_of_le_length (by rw [List.length_append]; exact h), List.take_append, List.take_of_length_le h0]
theorem takeL_cut {n : Int} (hn : put n ≠ []) (pre : List UInt8) (c : Nat) (h : c < (put n).length) : takeL (pre ++ (put n).take c) pre.length = (0, 0, 10) := by
  obtain ⟨m, rfl, hm, e⟩ := put_ok hn
  rw [e] at h ⊢
  unfold takeL
  rw [if_neg (by rw [List.length_append]; omega), Int.toNat_natCast, List.drop_left, tkh_cut m c h]
  rfl
theorem rdNum_cut0 {n : Int} (hn : put n ≠ []) (pre rest : List UInt8) (cut : Nat) (f : Int) (h0 : pre.length ≤ cut) (h : cut < pre.length + (put n).length) :
    rdNum ((pre ++ put n ++ rest).take cut) ⟨pre.length, 0, f⟩ = (0, ⟨pre.length, 10, pre.length⟩) := by
  rw [take_out _ _ _ _ h0 (by omega)]
  unfold rdNum
  simp only [takeL_cut hn pre (cut - pre.length) (by omega), if_true]
  rfl
theorem rdText_cut (t : List UInt8) (ht : t.length < 4611686018427387904) (pre rest : List UInt8) (cut : Nat) (r : Rd) (h : cutInv pre.length cut r) : cutInv (pre.length + (text t).length) cut (rdText ((pre ++ text t ++ rest).take cut) r).2 := by
  obtain ⟨a, e, f⟩ := r
  rcases h with ⟨he, ha, hp⟩ | ⟨he, hf⟩
  · simp only at he ha
    subst he ha
    have hn := put_len_nat t.length ht
    by_cases c : pre.length + (text t).length ≤ cut
    · rw [take_in _ _ _ _ c, rdText_at t ht]
      exact .inl ⟨rfl, by simp, c⟩
    · have e : pre ++ text t ++ rest = pre ++ put (t.length : Int) ++ (t ++ rest) := by simp [text]
      have hl : (text t).length = (put (t.length : Int)).length + t.length := by unfold text; rw [List.length_append]
      rw [e]
      by_cases c2 : pre.length + (put (t.length : Int)).length ≤ cut
      · have hs : ((pre ++ put (t.length : Int) ++ (t ++ rest)).take cut).length ≤ cut := by rw [List.length_take]; omega
        rw [take_in _ _ _ _ c2] at hs ⊢
        unfold rdText
        simp only [if_true]
        rw [rdNum_at hn]
        simp only [if_true, rdTake0]
        rw [if_neg (by omega), if_pos (by omega)]
        exact .inr ⟨rfl, by simp only; omega⟩
      · unfold rdText
        simp only [if_true]
        rw [rdNum_cut0 hn pre (t ++ rest) cut f hp (by omega)]
        rw [if_neg (by simp)]
        exact .inr ⟨rfl, by simp only; omega⟩
  · simp only at he
    subst he
    exact .inr ⟨rfl, hf⟩
theorem cutInv_end {pos cut : Nat} {r : Rd} (h : cutInv pos cut r) (hc : cut < pos) : r.e = 10 ∧ r.f ≤ cut := by
  rcases h with ⟨_, _, h⟩ | h
  · omega
  · exact h
end ShCore

/- What wire's printed functions come to, by plain lists of bytes. For every input within the machine's sizes. -/
namespace Go.Proofs.Ytlmmlmmbnfcogaa.Q
open Go Go.RowKit Go.Proofs.YtlmmlmmbnfcogaaW.PrintWords Go.Proofs.YtlmmlmmbnfcogaaW.PrintLast Go.Proofs.YtlmmlmmbnfcogaaW.PrintMore ShCore

theorem wire_Reader_take.eq (s : ByteArray) (r : Rd) (n b : Int) (hs : s.size < 4611686018427387904) (h : r.ok (lst s)) (hn : n < 9223372036854775808) :
    wire_Reader_take.f s r.a r.e r.f n b = some (arr (rdTake0 (lst s) r n b).1, s, (rdTake0 (lst s) r n b).2.a, (rdTake0 (lst s) r n b).2.e, (rdTake0 (lst s) r n b).2.f) := by
  obtain ⟨a, e, f⟩ := r
  have hl := lst_length s
  obtain ⟨h0, h1⟩ := h
  simp only at h0 h1
  rw [hl] at h1
  have a1 : -9223372036854775808 ≤ (s.size : Int) - a ∧ (s.size : Int) - a < 9223372036854775808 := by omega
  unfold wire_Reader_take.f rdTake0
  rw [wrap64_of a1.1 a1.2]
  simp only [hl]
  by_cases c1 : n < 0
  · rw [if_pos c1, if_pos c1]
    rfl
  · rw [if_neg c1, if_neg c1]
    by_cases c2 : n > (s.size : Int) - a
    · rw [if_pos c2, if_pos c2]
      rfl
    · rw [if_neg c2, if_neg c2]
      have a2 : -9223372036854775808 ≤ a + n ∧ a + n < 9223372036854775808 := by omega
      rw [wrap64_of a2.1 a2.2, if_pos h0, if_pos (by omega), if_pos (by omega)]
      have e1 : s.extract a.toNat (a + n).toNat = arr (((lst s).drop a.toNat).take n.toNat) := by
        apply lst_inj
        rw [lst_extract, lst_arr, show (a + n).toNat - a.toNat = n.toNat by omega]
      rw [e1]
theorem wire_Reader_Num.ev (s : ByteArray) (r : Rd) (hs : s.size < 4611686018427387904) :
    Ev (fun k => wire_Reader_Num.f k s r.a r.e r.f) ((rdNum (lst s) r).1, s, (rdNum (lst s) r).2.a, (rdNum (lst s) r).2.e, (rdNum (lst s) r).2.f) := by
  unfold wire_Reader_Num.f wire_Reader_ok.f rdNum
  simp only [Option.bind_some]
  by_cases c : r.e = 0
  · rw [if_pos c]
    refine evYes (by simpa using c) ?_
    refine Ev.bind (varint_Take.ev s r.a hs) ?_
    by_cases c2 : (takeL (lst s) r.a).2.2 = 0
    · simp only [if_pos c2]
      exact Ev.now _
    · simp only [if_neg c2]
      exact Ev.now _
  · rw [if_neg c]
    exact evNo (by simpa using c) (Ev.now _)
theorem wire_Reader_Text.ev (s : ByteArray) (r : Rd) (hs : s.size < 4611686018427387904) (h : r.ok (lst s)) :
    Ev (fun k => wire_Reader_Text.f k s r.a r.e r.f) (arr (rdText (lst s) r).1, s, (rdText (lst s) r).2.a, (rdText (lst s) r).2.e, (rdText (lst s) r).2.f) := by
  unfold wire_Reader_Text.f wire_Reader_ok.f rdText
  simp only [Option.bind_some]
  by_cases c : r.e = 0
  · rw [if_pos c]
    refine evYes (by simpa using c) ?_
    refine Ev.bind (wire_Reader_Num.ev s r hs) ?_
    have hn := rdNum_nonneg (lst s) r
    have hk := rdNum_ok h
    generalize rdNum (lst s) r = q at *
    obtain ⟨n, q⟩ := q
    simp only at hn hk ⊢
    by_cases c2 : q.e = 0
    · rw [if_pos c2]
      refine evYes (by simpa using c2) ?_
      simp only [wire_Reader_take.eq s q n r.a hs hk (by omega), Option.bind_some]
      exact Ev.now _
    · rw [if_neg c2]
      exact evNo (by simpa using c2) (Ev.now _)
  · rw [if_neg c]
    exact evNo (by simpa using c) (Ev.now _)
theorem rNum (s : ByteArray) (a e f : Int) {n : Int} {a' e' f' : Int} (hs : s.size < 4611686018427387904) (hr : rdNum (lst s) ⟨a, e, f⟩ = (n, ⟨a', e', f'⟩)) : Ev (fun k => wire_Reader_Num.f k s a e f) (n, s, a', e', f') := by
  have := wire_Reader_Num.ev s ⟨a, e, f⟩ hs
  rw [hr] at this
  exact this
theorem rText' (s : ByteArray) (a e f : Int) {l : List UInt8} {a' e' f' : Int} (hs : s.size < 4611686018427387904) (h : Rd.ok (lst s) ⟨a, e, f⟩) (hr : rdText (lst s) ⟨a, e, f⟩ = (l, ⟨a', e', f'⟩)) : Ev (fun k => wire_Reader_Text.f k s a e f) (arr l, s, a', e', f') := by
  have := wire_Reader_Text.ev s ⟨a, e, f⟩ hs h
  rw [hr] at this
  exact this
theorem wire_Text.ev (s : ByteArray) (hs : s.size < 4611686018427387904) : Ev (fun k => wire_Text.f k s) (arr (text (lst s))) := by
  unfold wire_Text.f
  refine Ev.bind (varint_Put.ev (s.size : Int)) ?_
  have h1 := put_len (s.size : Int)
  refine evYes (by rw [size_arr]; omega) ?_
  have e : arr (put (s.size : Int)) ++ s = arr (text (lst s)) := by
    apply lst_inj
    rw [lst_append, lst_arr, lst_arr]
    unfold text
    rw [lst_length]
  rw [e]
  exact Ev.now _
theorem rd_drop {l : List Int} {i : Nat} (h : i < l.length) : l.drop i = rd l i :: l.drop (i + 1) := by
  rw [List.drop_eq_getElem_cons h]
  congr 1
  simp [rd, h]
theorem wire_Nums.l0_ev (l : List Int) (hl : l.length ≤ 1000000000000) (d : Nat) : ∀ (i : Nat) (acc : List UInt8), i + d = l.length → acc.length ≤ 9 * i →
    Ev (fun k => wire_Nums.l0 k l (arr acc) (i : Int)) (arr (((numsO (l.drop i)).map (acc ++ ·)).getD [])) := by
  induction d with
  | zero =>
    intro i acc hi ha
    refine Ev.step (fun k => wire_Nums.l0.eq_2 ..) ?_
    refine evNo (by omega) ?_
    rw [List.drop_eq_nil_of_le (by omega)]
    simp [numsO]
    exact Ev.now _
  | succ d ih =>
    intro i acc hi ha
    refine Ev.step (fun k => wire_Nums.l0.eq_2 ..) ?_
    refine evYes (by omega) (evYes (by omega) ?_)
    refine Ev.bind (varint_Put.ev _) ?_
    rw [rd_drop (show i < l.length by omega)]
    simp only [toList_lst, lst_arr, numsO]
    by_cases c : put (rd l i) = []
    · simp only [if_pos c]
      exact Ev.now _
    · simp only [if_neg c]
      have hp := put_len (rd l i)
      refine evYes (by rw [size_arr, size_arr]; omega) ?_
      have a4 : (i : Int) + 1 = ((i + 1 : Nat) : Int) ∧ (i : Int) + 1 < 9223372036854775808 := by omega
      simp only [arr_append, wrap64_nat' a4.1 a4.2]
      have h2 := ih (i + 1) (acc ++ put (rd l i)) (by omega) (by rw [List.length_append]; omega)
      have e : ((numsO (l.drop (i + 1))).map (put (rd l i) ++ ·)).map (acc ++ ·) = (numsO (l.drop (i + 1))).map ((acc ++ put (rd l i)) ++ ·) := by
        rw [Option.map_map]
        congr 1
        funext x
        simp
      rw [e]
      exact h2
theorem wire_Nums.ev (l : List Int) (hl : l.length ≤ 1000000000000) : Ev (fun k => wire_Nums.f k l) (arr (numsL l)) := by
  have h := wire_Nums.l0_ev l hl l.length 0 [] (by omega) (by simp)
  have e : ((numsO (l.drop 0)).map (([] : List UInt8) ++ ·)).getD [] = numsL l := by
    unfold numsL
    cases h : numsO l <;> simp [h]
  rw [e] at h
  exact h
end Go.Proofs.Ytlmmlmmbnfcogaa.Q

/- What the document's reader comes to, in numbers and texts, by plain functions of lists. For every input within the machine's sizes. -/
set_option linter.unusedVariables false
namespace Go.Proofs.Ytlmmlmmbnfcogaa.RefT
open Go Go.RowKit Go.Proofs.Ytlmmlmmbnfcogaa.Q Go.Proofs.YtlmmlmmbnfcogaaW.PrintWords Go.Proofs.YtlmmlmmbnfcogaaW.PrintLast Go.Proofs.YtlmmlmmbnfcogaaW.PrintMore ShCore
/-- Behind an error a reader stands where the call with the error began. -/
def rdInv (r : Rd) : Prop := r.e = 0 ∨ r.f ≤ r.a
theorem refNum (s : ByteArray) (a e f : Int) {n : Int} {a' e' f' : Int} (hs : s.size < 4611686018427387904) (hr : rdNum (lst s) ⟨a, e, f⟩ = (n, ⟨a', e', f'⟩)) : Ev (fun k => shuttlecockref02_Reader_Num.f k s a e f) (n, s, a', e', f') := by
  unfold shuttlecockref02_Reader_Num.f
  unfold rdNum at hr
  by_cases c : e = 0
  · refine evYes c ?_
    refine Ev.bind (shuttlecockref01_Take.ev s a hs) ?_
    rw [if_pos c] at hr
    by_cases c2 : (takeL (lst s) a).2.2 = 0
    · simp only [if_pos c2] at hr ⊢
      simp only [Prod.mk.injEq, Rd.mk.injEq] at hr
      obtain ⟨rfl, rfl, rfl, rfl⟩ := hr
      exact Ev.now _
    · simp only [if_neg c2] at hr ⊢
      simp only [Prod.mk.injEq, Rd.mk.injEq] at hr
      obtain ⟨rfl, rfl, rfl, rfl⟩ := hr
      exact Ev.now _
  · refine evNo c ?_
    rw [if_neg c] at hr
    simp only [Prod.mk.injEq, Rd.mk.injEq] at hr
    obtain ⟨rfl, rfl, rfl, rfl⟩ := hr
    exact Ev.now _
theorem refTake (s : ByteArray) (a e f n : Int) {l : List UInt8} {a' e' f' : Int} (hs : s.size < 4611686018427387904) (h : Rd.ok (lst s) ⟨a, e, f⟩) (hn : n < 9223372036854775808) (hr : rdTake (lst s) ⟨a, e, f⟩ n = (l, ⟨a', e', f'⟩)) : shuttlecockref02_Reader_Take.f s a e f n = some (arr l, s, a', e', f') := by
  have hl := lst_length s
  obtain ⟨h0, h1⟩ := h
  simp only at h0 h1
  rw [hl] at h1
  have a1 : -9223372036854775808 ≤ (s.size : Int) - a ∧ (s.size : Int) - a < 9223372036854775808 := by omega
  unfold shuttlecockref02_Reader_Take.f shuttlecockref02_Reader_fail.f
  unfold rdTake rdTake0 at hr
  simp only [hl] at hr
  rw [wrap64_of a1.1 a1.2]
  by_cases c : e = 0
  · rw [if_pos c] at hr ⊢
    by_cases c1 : n < 0
    · rw [if_pos c1] at hr ⊢
      simp only [Prod.mk.injEq, Rd.mk.injEq] at hr
      obtain ⟨rfl, rfl, rfl, rfl⟩ := hr
      rfl
    · rw [if_neg c1] at hr ⊢
      by_cases c2 : n > (s.size : Int) - a
      · rw [if_pos c2] at hr ⊢
        simp only [Prod.mk.injEq, Rd.mk.injEq] at hr
        obtain ⟨rfl, rfl, rfl, rfl⟩ := hr
        rfl
      · rw [if_neg c2] at hr ⊢
        simp only [Prod.mk.injEq, Rd.mk.injEq] at hr
        obtain ⟨rfl, rfl, rfl, rfl⟩ := hr
        have a2 : -9223372036854775808 ≤ a + n ∧ a + n < 9223372036854775808 := by omega
        have a3 : -9223372036854775808 ≤ a + n - n ∧ a + n - n < 9223372036854775808 := by omega
        rw [wrap64_of a2.1 a2.2, wrap64_of a3.1 a3.2, if_pos (by omega), if_pos (by omega), if_pos (by omega)]
        have e1 : s.extract (a + n - n).toNat (a + n).toNat = arr (((lst s).drop a.toNat).take n.toNat) := by
          apply lst_inj
          rw [lst_extract, lst_arr, show (a + n).toNat - (a + n - n).toNat = n.toNat by omega, show (a + n - n).toNat = a.toNat by omega]
        rw [e1]
  · rw [if_neg c] at hr ⊢
    simp only [Prod.mk.injEq, Rd.mk.injEq] at hr
    obtain ⟨rfl, rfl, rfl, rfl⟩ := hr
    rfl
theorem refText (s : ByteArray) (a e f : Int) {l : List UInt8} {a' e' f' : Int} (hs : s.size < 4611686018427387904) (h : Rd.ok (lst s) ⟨a, e, f⟩) (hi : rdInv ⟨a, e, f⟩) (hr : rdText (lst s) ⟨a, e, f⟩ = (l, ⟨a', e', f'⟩)) : Ev (fun k => shuttlecockref02_Reader_Text.f k s a e f) (arr l, s, a', e', f') := by
  unfold shuttlecockref02_Reader_Text.f
  have hk := rdNum_ok h
  have hnn := rdNum_nonneg (lst s) ⟨a, e, f⟩
  generalize hq : rdNum (lst s) ⟨a, e, f⟩ = q at hk hnn
  obtain ⟨n, a1, e1, f1⟩ := q
  refine Ev.bind (refNum s a e f hs hq) ?_
  simp only at hk hnn ⊢
  unfold rdText at hr
  simp only [hq] at hr
  by_cases c : e = 0
  · rw [if_pos c] at hr
    subst c
    by_cases c1 : e1 = 0
    · rw [if_pos c1] at hr
      subst c1
      have h1 : a < a1 := by
        unfold rdNum at hq
        rw [if_pos rfl] at hq
        split at hq
        · rename_i ht
          obtain ⟨_, u, hu, hu1, _⟩ := takeL_back _ _ ht
          simp only [Prod.mk.injEq, Rd.mk.injEq] at hq
          have h3 := hq.2.1
          simp only at hu
          omega
        · rename_i ht
          simp only [Prod.mk.injEq, Rd.mk.injEq] at hq
          exact absurd hq.2.2.1 ht
      generalize ht : rdTake (lst s) ⟨a1, 0, f1⟩ n = t
      obtain ⟨l2, a2, e2, f2⟩ := t
      have hT := refTake s a1 0 f1 n hs hk (by omega) ht
      refine Ev.bind (evC hT) ?_
      simp only
      unfold rdTake at ht
      rw [if_pos rfl] at ht
      unfold rdTake0 at ht hr
      by_cases c2 : n < 0
      · omega
      · rw [if_neg c2] at ht hr
        by_cases c3 : n > ((lst s).length : Int) - a1
        · simp only [if_pos c3, Prod.mk.injEq, Rd.mk.injEq] at ht hr
          obtain ⟨rfl, rfl, rfl, rfl⟩ := ht
          obtain ⟨rfl, rfl, rfl, rfl⟩ := hr
          refine evNo (by omega) (evYes h1 ?_)
          exact Ev.now _
        · simp only [if_neg c3, Prod.mk.injEq, Rd.mk.injEq] at ht hr
          obtain ⟨rfl, rfl, rfl, rfl⟩ := ht
          obtain ⟨rfl, rfl, rfl, rfl⟩ := hr
          exact evYes rfl (Ev.now _)
    · rw [if_neg c1] at hr
      simp only [Prod.mk.injEq, Rd.mk.injEq] at hr
      obtain ⟨rfl, rfl, rfl, rfl⟩ := hr
      have hf : f1 = a := by
        unfold rdNum at hq
        rw [if_pos rfl] at hq
        split at hq
        · simp only [Prod.mk.injEq, Rd.mk.injEq] at hq
          exact absurd hq.2.2.1.symm c1
        · simp only [Prod.mk.injEq, Rd.mk.injEq] at hq
          exact hq.2.2.2.symm
      have ht : rdTake (lst s) ⟨a1, e1, f1⟩ n = ([], ⟨a1, e1, f1⟩) := by unfold rdTake; rw [if_neg c1]
      refine Ev.bind (evC (refTake s a1 e1 f1 n hs hk (by omega) ht)) ?_
      exact evNo c1 (evNo (by simp only; omega) (Ev.now _))
  · rw [if_neg c] at hr
    simp only [Prod.mk.injEq, Rd.mk.injEq] at hr
    obtain ⟨rfl, rfl, rfl, rfl⟩ := hr
    unfold rdNum at hq
    rw [if_neg c] at hq
    simp only [Prod.mk.injEq, Rd.mk.injEq] at hq
    obtain ⟨rfl, rfl, rfl, rfl⟩ := hq
    have ht : rdTake (lst s) ⟨a, e, f⟩ 0 = ([], ⟨a, e, f⟩) := by unfold rdTake; rw [if_neg c]
    refine Ev.bind (evC (refTake s a e f 0 hs hk (by omega) ht)) ?_
    have hfa : f ≤ a := by
      rcases hi with hi | hi
      · exact absurd hi c
      · exact hi
    exact evNo c (evNo (by simp only; omega) (Ev.now _))
end Go.Proofs.Ytlmmlmmbnfcogaa.RefT

/- The document's texts and numbers, one behind the other, by plain lists of bytes. For every input within the machine's sizes. -/
namespace Go.Proofs.Ytlmmlmmbnfcogaa.Q
open Go Go.RowKit Go.Proofs.YtlmmlmmbnfcogaaW.PrintWords Go.Proofs.YtlmmlmmbnfcogaaW.PrintLast Go.Proofs.YtlmmlmmbnfcogaaW.PrintMore ShCore
theorem rNums0 (l : List Int) (hl : l.length ≤ 1000000000000) (d : Nat) : ∀ (i : Nat) (acc : List UInt8), i + d = l.length → acc.length ≤ 9 * i →
    Ev (fun k => shuttlecockref02_Nums.l0 k l (arr acc) (i : Int)) (arr (((numsO (l.drop i)).map (acc ++ ·)).getD [])) := by
  induction d with
  | zero =>
    intro i acc hi ha
    refine Ev.step (fun k => shuttlecockref02_Nums.l0.eq_2 ..) ?_
    refine evNo (by omega) ?_
    rw [List.drop_eq_nil_of_le (by omega)]
    simp [numsO]
    exact Ev.now _
  | succ d ih =>
    intro i acc hi ha
    refine Ev.step (fun k => shuttlecockref02_Nums.l0.eq_2 ..) ?_
    refine evYes (by omega) (evYes (by omega) ?_)
    refine Ev.bind (shuttlecockref01_Put.ev _) ?_
    rw [rd_drop (show i < l.length by omega)]
    simp only [toList_lst, lst_arr, numsO]
    by_cases c : put (rd l i) = []
    · simp only [if_pos c]
      exact Ev.now _
    · simp only [if_neg c]
      have hp := put_len (rd l i)
      refine Ev.bind (shuttlecockref01_Put.ev _) ?_
      refine evYes (by rw [size_arr, size_arr]; omega) ?_
      have a4 : (i : Int) + 1 = ((i + 1 : Nat) : Int) ∧ (i : Int) + 1 < 9223372036854775808 := by omega
      simp only [arr_append, wrap64_nat' a4.1 a4.2]
      have h2 := ih (i + 1) (acc ++ put (rd l i)) (by omega) (by rw [List.length_append]; omega)
      have e : ((numsO (l.drop (i + 1))).map (put (rd l i) ++ ·)).map (acc ++ ·) = (numsO (l.drop (i + 1))).map ((acc ++ put (rd l i)) ++ ·) := by
        rw [Option.map_map]
        congr 1
        funext x
        simp
      rw [e]
      exact h2
theorem rNums (l : List Int) (hl : l.length ≤ 1000000000000) : Ev (fun k => shuttlecockref02_Nums.f k l) (arr (numsL l)) := by
  have h := rNums0 l hl l.length 0 [] (by omega) (by simp)
  have e : ((numsO (l.drop 0)).map (([] : List UInt8) ++ ·)).getD [] = numsL l := by
    unfold numsL
    cases h : numsO l <;> simp [h]
  rw [e] at h
  exact h
theorem rText (s : ByteArray) (hs : s.size < 4611686018427387904) : Ev (fun k => shuttlecockref02_Text.f k s) (arr (text (lst s))) := by
  unfold shuttlecockref02_Text.f
  have h9 := put_len (s.size : Int)
  refine Ev.bind (shuttlecockref01_Put.ev (s.size : Int)) ?_
  refine evYes (by rw [size_arr]; omega) (evC ?_)
  apply congrArg some
  apply lst_inj
  rw [lst_append, lst_arr, lst_arr]
  unfold text
  rw [lst_length]
end Go.Proofs.Ytlmmlmmbnfcogaa.Q

/- What a table may be, by plain lists: keys, places. For every input. -/
namespace Go.Proofs.Ytlmmlmmbnfcogaa.Q
open Go Go.RowKit Go.Proofs.YtlmmlmmbnfcogaaW.PrintWords Go.Proofs.YtlmmlmmbnfcogaaW.PrintLast Go.Proofs.YtlmmlmmbnfcogaaW.PrintMore ShCore
abbrev T2 := S70
instance : DecidableEq T2 := fun a b => decidable_of_iff (a.f0 = b.f0 ∧ a.f1 = b.f1) (by cases a; cases b; simp)
instance memB (s : ByteArray) (l : List ByteArray) : Decidable (s ∈ l) := decidable_of_iff (∃ a ∈ l, a = s) ⟨fun ⟨_, h, e⟩ => e ▸ h, fun h => ⟨s, h, rfl⟩⟩
theorem T2_ext {a b : T2} (h0 : a.f0 = b.f0) (h1 : a.f1 = b.f1) : a = b := by cases a; cases b; simp_all
/-! #### places in lists -/
theorem getD_mid {α : Type} (d : α) (pre : List α) (a : α) (r : List α) : (pre ++ a :: r).getD pre.length d = a := by
  rw [List.getD_eq_getElem?_getD]
  simp
theorem rdOf_mid {α : Type} (d : α) (pre : List α) (a : α) (r : List α) : rdOf d (pre ++ a :: r) (pre.length : Int) = a := by
  unfold rdOf
  rw [Int.toNat_natCast]
  exact getD_mid ..
theorem rd2_mid (pre : List T2) (a : T2) (r : List T2) : rd_T70 (pre ++ a :: r) (pre.length : Int) = a := by
  unfold rd_T70
  rw [Int.toNat_natCast]
  exact getD_mid ..
theorem rdL_mid (pre : List (List T2)) (a : List T2) (r : List (List T2)) : rd_L2 (pre ++ a :: r) (pre.length : Int) = a := by
  unfold rd_L2
  rw [Int.toNat_natCast]
  exact getD_mid ..
theorem rdS_mid (pre : List (List T2)) (a : List T2) (r : List (List T2)) : rd_stk (pre ++ a :: r) (pre.length : Int) = a := by
  unfold rd_stk
  rw [Int.toNat_natCast]
  exact getD_mid ..
theorem lt_mid {α : Type} (pre : List α) (a : α) (r : List α) : (pre.length : Int) < ((pre ++ a :: r).length : Int) := by
  rw [List.length_append, List.length_cons]
  omega
theorem snoc_len {α : Type} (pre : List α) (a : α) : ((pre.length : Int) + 1) = ((pre ++ [a]).length : Int) := by
  rw [List.length_append, List.length_singleton]
  rfl
theorem w_snoc {α : Type} (pre : List α) (a : α) (h : pre.length < 4611686018427387904) : wrap64 ((pre.length : Int) + 1) = ((pre ++ [a]).length : Int) := by
  rw [← snoc_len]
  unfold wrap64
  omega
theorem nlt_end {α : Type} (pre : List α) : ¬ (pre.length : Int) < ((pre ++ []).length : Int) := by
  rw [List.append_nil]
  omega
theorem mid_snoc {α : Type} (pre : List α) (a : α) (r : List α) : pre ++ a :: r = (pre ++ [a]) ++ r := by simp
theorem eq_lst {a b : ByteArray} : a.toList = b.toList ↔ a = b := ⟨fun h => lst_inj (by rw [← toList_lst, ← toList_lst, h]), fun h => by rw [h]⟩
theorem nil_lst {a : ByteArray} : a.toList = ([] : List UInt8) ↔ a.size = 0 := by
  rw [toList_lst, ← lst_length]
  exact List.length_eq_zero_iff.symm
/-! #### the first place -/
def fi {α : Type} (p : α → Bool) : List α → Nat → Int
  | [], _ => -1
  | a :: l, i => if p a then (i : Int) else fi p l (i + 1)
theorem fi_mid {α : Type} (p : α → Bool) (a : α) (r : List α) (ha : p a = true) : ∀ (pre : List α) (i : Nat), (∀ b ∈ pre, p b = false) → fi p (pre ++ a :: r) i = ((i + pre.length : Nat) : Int)
  | [], i, _ => by
    show (if p a then (i : Int) else _) = _
    rw [if_pos ha]
    rfl
  | b :: pre, i, h => by
    show (if p b then (i : Int) else fi p (pre ++ a :: r) (i + 1)) = _
    rw [if_neg (by simp [h b (by simp)]), fi_mid p a r ha pre (i + 1) (fun c hc => h c (by simp [hc]))]
    congr 1
    simp only [List.length_cons]
    omega
theorem fi_pre {α : Type} (p : α → Bool) (r : List α) : ∀ (pre : List α) (i : Nat), (∃ b ∈ pre, p b = true) → ∃ j : Nat, fi p (pre ++ r) i = ((i + j : Nat) : Int) ∧ j < pre.length
  | [], i, h => by simp at h
  | b :: pre, i, h => by
    show ∃ j : Nat, (if p b then (i : Int) else fi p (pre ++ r) (i + 1)) = _ ∧ _
    by_cases hb : p b = true
    · rw [if_pos hb]
      exact ⟨0, rfl, by simp⟩
    · rw [if_neg hb]
      obtain ⟨j, e, hj⟩ := fi_pre p r pre (i + 1) (by simpa [hb] using h)
      exact ⟨j + 1, by rw [e]; congr 1; omega, by simp; omega⟩
/-! #### what a table may be -/
def sAll : List ByteArray → List ByteArray → Bool
  | _, [] => true
  | done, s :: r => decide (1 ≤ s.size) && decide (s.size ≤ 1000) && !decide (s ∈ done) && sAll (done ++ [s]) r
def kAll (n : Int) : List (List T2) → List (List T2) → Bool
  | _, [] => true
  | done, l :: r => framesB l n && !decide (l ∈ done) && kAll n (done ++ [l]) r
def mayC (d : List ByteArray) (m : List (List T2)) : Bool := decide (d.length ≤ 10000) && decide (m.length ≤ 10000) && sAll [] d && kAll d.length [] m
theorem sAll_iff : ∀ (l done : List ByteArray), sAll done l = true ↔ (∀ s ∈ l, 1 ≤ s.size ∧ s.size ≤ 1000) ∧ l.Nodup ∧ ∀ s ∈ l, s ∉ done
  | [], done => by simp [sAll]
  | s :: r, done => by
    unfold sAll
    simp only [Bool.and_eq_true, decide_eq_true_eq, Bool.not_eq_true', decide_eq_false_iff_not, sAll_iff r, List.mem_append, List.nodup_cons, List.mem_cons, List.not_mem_nil, or_false, forall_eq_or_imp, not_or]
    constructor
    · rintro ⟨⟨⟨h1, h2⟩, h3⟩, h4, h5, h6⟩
      exact ⟨⟨⟨h1, h2⟩, h4⟩, ⟨fun h => (h6 s h).2 rfl, h5⟩, h3, fun a ha => (h6 a ha).1⟩
    · rintro ⟨⟨⟨h1, h2⟩, h4⟩, ⟨h7, h5⟩, h3, h6⟩
      exact ⟨⟨⟨h1, h2⟩, h3⟩, h4, h5, fun a ha => ⟨h6 a ha, fun e => h7 (e ▸ ha)⟩⟩
theorem kAll_iff (n : Int) : ∀ (l done : List (List T2)), kAll n done l = true ↔ (∀ s ∈ l, framesB s n = true) ∧ l.Nodup ∧ ∀ s ∈ l, s ∉ done
  | [], done => by simp [kAll]
  | s :: r, done => by
    unfold kAll
    simp only [Bool.and_eq_true, Bool.not_eq_true', decide_eq_false_iff_not, kAll_iff n r, List.mem_append, List.nodup_cons, List.mem_cons, List.not_mem_nil, or_false, forall_eq_or_imp, not_or]
    constructor
    · rintro ⟨⟨h1, h3⟩, h4, h5, h6⟩
      exact ⟨⟨h1, h4⟩, ⟨fun h => (h6 s h).2 rfl, h5⟩, h3, fun a ha => (h6 a ha).1⟩
    · rintro ⟨⟨h1, h4⟩, ⟨h7, h5⟩, h3, h6⟩
      exact ⟨⟨h1, h3⟩, h4, h5, fun a ha => ⟨h6 a ha, fun e => h7 (e ▸ ha)⟩⟩
theorem framesB_iff (l : List T2) (n : Int) : framesB l n = true ↔ (1 ≤ l.length ∧ l.length ≤ 100) ∧ ∀ x ∈ l, (1 ≤ x.f0 ∧ x.f0 ≤ n) ∧ 0 ≤ x.f1 ∧ x.f1 < 4611686018427387904 := by
  unfold framesB
  by_cases h : l.length = 0 ∨ 100 < l.length
  · rw [if_pos h]
    constructor
    · intro hh; exact absurd hh (by simp)
    · rintro ⟨h1, _⟩; omega
  · rw [if_neg h]
    simp only [Bool.not_eq_true', List.any_eq_false, outF, Bool.or_eq_true, decide_eq_true_eq, not_or, Int.not_lt, Int.not_le]
    constructor
    · intro hh
      refine ⟨by omega, fun x hx => ?_⟩
      have := hh x hx
      omega
    · rintro ⟨_, hh⟩ x hx
      have := hh x hx
      omega
/-- A table that may be. -/
def MayP (d : List ByteArray) (m : List (List T2)) : Prop := d.length ≤ 10000 ∧ m.length ≤ 10000 ∧ (∀ s ∈ d, 1 ≤ s.size ∧ s.size ≤ 1000) ∧ d.Nodup ∧ (∀ l ∈ m, framesB l d.length = true) ∧ m.Nodup
theorem mayC_iff (d : List ByteArray) (m : List (List T2)) : mayC d m = true ↔ MayP d m := by
  unfold mayC MayP
  simp only [Bool.and_eq_true, decide_eq_true_eq, sAll_iff, kAll_iff, List.not_mem_nil, not_false_eq_true, implies_true, and_true]
  constructor
  · rintro ⟨⟨⟨a, b⟩, c, e⟩, f, g⟩; exact ⟨a, b, c, e, f, g⟩
  · rintro ⟨a, b, c, e, f, g⟩; exact ⟨⟨⟨a, b⟩, c, e⟩, f, g⟩
/-! #### keys -/
def keyL (l : List T2) : List UInt8 := l.flatMap fun x => put x.f0 ++ put x.f1
def fine (x : T2) : Prop := (0 ≤ x.f0 ∧ x.f0 < 4611686018427387904) ∧ 0 ≤ x.f1 ∧ x.f1 < 4611686018427387904
theorem put_fine {n : Int} (h0 : 0 ≤ n) (h1 : n < 4611686018427387904) : ∃ k : Nat, n = k ∧ k < 4611686018427387904 ∧ put n = putF 8 k := by
  obtain ⟨k, rfl⟩ : ∃ k : Nat, n = k := ⟨n.toNat, by omega⟩
  exact ⟨k, rfl, by omega, put_nat k (by omega)⟩
theorem put_app {n m : Int} (h0 : 0 ≤ n) (h1 : n < 4611686018427387904) (k0 : 0 ≤ m) (k1 : m < 4611686018427387904) {u v : List UInt8} (h : put n ++ u = put m ++ v) : n = m ∧ u = v := by
  obtain ⟨a, rfl, ha, ea⟩ := put_fine h0 h1
  obtain ⟨b, rfl, hb, eb⟩ := put_fine k0 k1
  rw [ea, eb] at h
  have t1 := tkh_put a ha u
  rw [h, tkh_put b hb v] at t1
  have e : b = a := congrArg Prod.fst t1
  subst e
  exact ⟨rfl, List.append_cancel_left h⟩
theorem keyL_inj : ∀ (a b : List T2), (∀ x ∈ a, fine x) → (∀ x ∈ b, fine x) → keyL a = keyL b → a = b
  | [], [], _, _, _ => rfl
  | [], y :: b, _, hb, h => by
    obtain ⟨k, _, hk, e⟩ := put_fine (hb y (by simp)).1.1 (hb y (by simp)).1.2
    have := congrArg List.length h
    simp only [keyL, List.flatMap_cons, List.flatMap_nil, List.length_append, List.length_nil, e] at this
    have := (putF_len 8 k).1
    omega
  | y :: a, [], ha, _, h => by
    obtain ⟨k, _, hk, e⟩ := put_fine (ha y (by simp)).1.1 (ha y (by simp)).1.2
    have := congrArg List.length h
    simp only [keyL, List.flatMap_cons, List.flatMap_nil, List.length_append, List.length_nil, e] at this
    have := (putF_len 8 k).1
    omega
  | x :: a, y :: b, ha, hb, h => by
    have hx := ha x (by simp)
    have hy := hb y (by simp)
    simp only [keyL, List.flatMap_cons, List.append_assoc] at h
    obtain ⟨e0, h⟩ := put_app hx.1.1 hx.1.2 hy.1.1 hy.1.2 h
    obtain ⟨e1, h⟩ := put_app hx.2.1 hx.2.2 hy.2.1 hy.2.2 h
    rw [keyL_inj a b (fun z hz => ha z (by simp [hz])) (fun z hz => hb z (by simp [hz])) h, T2_ext e0 e1]
theorem fine_of {l : List T2} {n : Int} (h : framesB l n = true) (hn : n ≤ 10000) : ∀ x ∈ l, fine x := fun x hx => by
  have := ((framesB_iff l n).1 h).2 x hx
  unfold fine
  omega
theorem keyL_len (l : List T2) : (keyL l).length ≤ 18 * l.length := by
  induction l with
  | nil => simp [keyL]
  | cons x l ih =>
    simp only [keyL, List.flatMap_cons, List.length_append, List.length_cons] at *
    have := put_len x.f0
    have := put_len x.f1
    omega
def keyB (l : List T2) : ByteArray := arr (keyL l)
theorem keyB_inj {a b : List T2} {n : Int} (ha : framesB a n = true) (hb : framesB b n = true) (hn : n ≤ 10000) (h : keyB a = keyB b) : a = b := keyL_inj a b (fine_of ha hn) (fine_of hb hn) (arr_inj h)
theorem hasS_mem (ks : List ByteArray) (s : ByteArray) : hasS ks s = decide (s ∈ ks) := by
  unfold hasS
  rw [Bool.eq_iff_iff, List.any_eq_true, decide_eq_true_eq]
  constructor
  · rintro ⟨x, hx, e⟩
    rw [← lst_inj (beq_iff_eq.1 e)]
    exact hx
  · exact fun h => ⟨s, h, beq_iff_eq.2 rfl⟩
theorem hasS_key {done : List (List T2)} {l : List T2} {n : Int} (hd : ∀ a ∈ done, framesB a n = true) (hl : framesB l n = true) (hn : n ≤ 10000) : hasS (done.map keyB) (keyB l) = decide (l ∈ done) := by
  rw [hasS_mem, decide_eq_decide, List.mem_map]
  constructor
  · rintro ⟨a, ha, e⟩
    rw [← keyB_inj (hd a ha) hl hn e]
    exact ha
  · exact fun h => ⟨l, h, rfl⟩
end Go.Proofs.Ytlmmlmmbnfcogaa.Q

/- What the program's functions over tables come to. For every table. -/
namespace Go.Proofs.Ytlmmlmmbnfcogaa.Q
open Go Go.RowKit Go.Proofs.YtlmmlmmbnfcogaaW.PrintWords Go.Proofs.YtlmmlmmbnfcogaaW.PrintLast Go.Proofs.YtlmmlmmbnfcogaaW.PrintMore ShCore
theorem len1 {α : Type} (pre : List α) (a : α) : (pre ++ [a]).length = pre.length + 1 := by simp
theorem evIf {α : Type} {c : Prop} [Decidable c] {g f : Nat → Option α} {a b : α} (h1 : c → Ev g a) (h2 : ¬ c → Ev f b) : Ev (fun n => if c then g n else f n) (if c then a else b) := by
  by_cases h : c
  · rw [if_pos h]; exact evYes h (h1 h)
  · rw [if_neg h]; exact evNo h (h2 h)
theorem sAll_run : ∀ (rest pre : List ByteArray), sPre (pre ++ rest) (pre ++ rest).length = (sPre (pre ++ rest) pre.length && sAll pre rest)
  | [], pre => by simp [sAll]
  | s :: r, pre => by
    have ih := sAll_run r (pre ++ [s])
    rw [← mid_snoc] at ih
    rw [ih, List.length_append, List.length_singleton]
    show (sPre _ pre.length && sOk _ pre.length && sAll _ _) = (_ && sAll pre (s :: r))
    have e : sOk (pre ++ s :: r) pre.length = (decide (1 ≤ s.size) && decide (s.size ≤ 1000) && !decide (s ∈ pre)) := by
      unfold sOk
      rw [rdOf_mid, hasS_mem, List.take_left]
      congr 1
      congr 1
      · rw [Bool.eq_iff_iff, Bool.not_eq_true', beq_eq_false_iff_ne, decide_eq_true_eq, ne_eq, nil_lst]
        omega
      · rw [Bool.eq_iff_iff, Bool.not_eq_true', decide_eq_false_iff_not, decide_eq_true_eq]
        omega
    rw [e]
    simp only [sAll, Bool.and_assoc]
theorem sPre_eq (d : List ByteArray) : sPre d d.length = sAll [] d := by
  have h := sAll_run d []
  simpa [sPre] using h
theorem intern_key.l0_ev : ∀ (rest pre : List T2) (acc : ByteArray), (∀ x ∈ rest, fine x) → acc.size + 18 * rest.length ≤ 4000 → pre.length + rest.length ≤ 100 → Ev (fun k => intern_key.l0 k (pre ++ rest) acc (pre.length : Int)) (acc ++ keyB rest)
  | [], pre, acc, _, _, _ => by
    refine Ev.step (fun k => intern_key.l0.eq_2 ..) (evNo (nlt_end pre) ?_)
    have e : acc ++ keyB [] = acc := lst_inj (by rw [lst_append]; exact List.append_nil _)
    rw [e]
    exact Ev.now _
  | x :: r, pre, acc, hf, hs, hl => by
    refine Ev.step (fun k => intern_key.l0.eq_2 ..) (evYes (lt_mid pre x r) (evYes (by omega) ?_))
    rw [rd2_mid]
    have p0 := put_len x.f0
    have p1 := put_len x.f1
    simp only [List.length_cons] at hs hl
    refine Ev.bind (varint_Put.ev x.f0) (Ev.bind (varint_Put.ev x.f1) (evYes (by rw [size_arr, size_arr]; omega) ?_))
    rw [w_snoc pre x (by omega), mid_snoc pre x r]
    have ih := intern_key.l0_ev r (pre ++ [x]) (acc ++ (arr (put x.f0) ++ arr (put x.f1))) (fun y hy => hf y (by simp [hy])) (by rw [arr_append, ByteArray.size_append, size_arr, List.length_append]; omega) (by rw [List.length_append, List.length_singleton]; omega)
    have e : acc ++ (arr (put x.f0) ++ arr (put x.f1)) ++ keyB r = acc ++ keyB (x :: r) := by
      unfold keyB
      rw [ByteArray.append_assoc, arr_append, arr_append]
      rfl
    rw [e] at ih
    exact ih
theorem intern_key.ev {l : List T2} {n : Int} (h : framesB l n = true) (hn : n ≤ 10000) : Ev (fun k => intern_key.f k l) (keyB l) := by
  have hl := ((framesB_iff l n).1 h).1
  have ih := intern_key.l0_ev l [] (⟨#[]⟩ : ByteArray) (fine_of h hn) (by show 0 + _ ≤ _; omega) (by show 0 + _ ≤ _; omega)
  have e : (⟨#[]⟩ : ByteArray) ++ keyB l = keyB l := by
    show arr [] ++ arr _ = arr _
    rw [arr_append]
    rfl
  rw [e] at ih
  exact ih
theorem keyB_size {l : List T2} {n : Int} (h : framesB l n = true) : (keyB l).size ≤ 1800 := by
  have hl := ((framesB_iff l n).1 h).1
  have := keyL_len l
  unfold keyB
  rw [size_arr]
  omega
theorem intern_May.l1_ev (n : Int) (hn : n ≤ 10000) : ∀ (rest done : List (List T2)), (∀ a ∈ done, framesB a n = true) → Ev (fun k => intern_May.l1 k n (done ++ rest) (done.map keyB) (done.length : Int)) (kAll n done rest)
  | [], done, _ => Ev.step (fun k => intern_May.l1.eq_2 ..) (evNo (nlt_end done) (Ev.now _))
  | l :: r, done, hd => by
    refine Ev.step (fun k => intern_May.l1.eq_2 ..) (evYes (lt_mid done l r) ?_)
    rw [rdS_mid]
    unfold kAll
    by_cases h : framesB l n = true
    · refine evYes h (Ev.bind (intern_key.ev h hn) (evYes (by have := keyB_size h; omega) ?_))
      rw [hasS_key hd h hn, h]
      by_cases hm : l ∈ done
      · rw [decide_eq_true hm]
        exact evYes rfl (Ev.now _)
      · rw [decide_eq_false hm]
        refine evNo Bool.false_ne_true ?_
        have ih := intern_May.l1_ev n hn r (done ++ [l]) (fun a ha => by rcases List.mem_append.1 ha with h1 | h1; (· exact hd a h1); (· rw [List.mem_singleton.1 h1]; exact h))
        rw [List.map_append, ← snoc_len, ← mid_snoc] at ih
        simpa using ih
    · refine evNo h ?_
      rw [Bool.not_eq_true _ |>.mp h]
      exact Ev.now _
theorem intern_May.ev (d : List ByteArray) (m : List (List T2)) : Ev (fun k => intern_May.f k d m) (mayC d m) := by
  unfold mayC
  by_cases h1 : 10000 < d.length
  · rw [decide_eq_false (show ¬ d.length ≤ 10000 by omega)]
    exact evYes h1 (Ev.now _)
  refine evNo h1 ?_
  by_cases h2 : 10000 < m.length
  · rw [decide_eq_false (show ¬ m.length ≤ 10000 by omega), Bool.and_false]
    exact evYes h2 (Ev.now _)
  refine evNo h2 ?_
  rw [decide_eq_true (show d.length ≤ 10000 by omega), decide_eq_true (show m.length ≤ 10000 by omega), sPre_eq]
  by_cases h3 : sAll [] d = true
  · rw [h3]
    refine evYes rfl ?_
    have h := intern_May.l1_ev (d.length : Int) (by omega) m [] (by simp)
    simpa using h
  · rw [Bool.not_eq_true _ |>.mp h3]
    exact evNo Bool.false_ne_true (Ev.now _)
end Go.Proofs.Ytlmmlmmbnfcogaa.Q

/- What the document's functions over tables come to. For every table. -/
namespace Go.Proofs.Ytlmmlmmbnfcogaa.Q
open Go Go.RowKit Go.Proofs.YtlmmlmmbnfcogaaW.PrintWords Go.Proofs.YtlmmlmmbnfcogaaW.PrintLast Go.Proofs.YtlmmlmmbnfcogaaW.PrintMore ShCore
theorem shuttlecockref06_SameStack.l0_ev : ∀ (ra rb pa pb : List T2), pa.length = pb.length → ra.length = rb.length → pa.length + ra.length < 4611686018427387904 → Ev (fun k => shuttlecockref06_SameStack.l0 k (pa ++ ra) (pb ++ rb) (pa.length : Int)) (decide (ra = rb))
  | [], [], pa, pb, _, _, _ => Ev.step (fun k => shuttlecockref06_SameStack.l0.eq_2 ..) (evNo (nlt_end pa) (Ev.now _))
  | [], _ :: _, _, _, _, h, _ => by simp at h
  | _ :: _, [], _, _, _, h, _ => by simp at h
  | a :: ra, b :: rb, pa, pb, hp, hr, hs => by
    simp only [List.length_cons] at hr hs
    refine Ev.step (fun k => shuttlecockref06_SameStack.l0.eq_2 ..) (evYes (lt_mid pa a ra) (evYes (by omega) (evYes (by rw [hp]; exact lt_mid pb b rb) ?_)))
    rw [rd2_mid]
    have e2 : rd_T70 (pb ++ b :: rb) (pa.length : Int) = b := by rw [hp]; exact rd2_mid pb b rb
    rw [e2]
    by_cases h : a = b
    · subst h
      refine evNo (by simp) ?_
      rw [w_snoc pa a (by omega), mid_snoc pa a ra, mid_snoc pb a rb]
      have ih := shuttlecockref06_SameStack.l0_ev ra rb (pa ++ [a]) (pb ++ [a]) (by simp [hp]) (by omega) (by rw [len1]; omega)
      have e : decide (a :: ra = a :: rb) = decide (ra = rb) := by simp
      rw [e]
      exact ih
    · refine evYes (by
        rw [Bool.or_eq_true, Bool.not_eq_true', Bool.not_eq_true', beq_eq_false_iff_ne, beq_eq_false_iff_ne]
        by_cases h1 : a.f0 = b.f0
        · exact .inr (fun h2 => h (T2_ext h1 h2))
        · exact .inl h1) ?_
      have e : decide (a :: ra = b :: rb) = false := decide_eq_false (fun e => h (List.cons.inj e).1)
      rw [e]
      exact Ev.now _
theorem shuttlecockref06_SameStack.ev (a b : List T2) (h : a.length < 4611686018427387904) : Ev (fun k => shuttlecockref06_SameStack.f k a b) (decide (a = b)) := by
  by_cases hl : a.length = b.length
  · exact evYes (by omega) (shuttlecockref06_SameStack.l0_ev a b [] [] rfl hl (by show 0 + _ < _; omega))
  · rw [decide_eq_false (fun e => hl (by rw [e]))]
    exact evNo (by omega) (Ev.now _)
theorem shuttlecockref06_stack.l0_ev (s : List T2) : ∀ (rest pre : List (List T2)), (∀ l ∈ rest, l.length < 4611686018427387904) → pre.length + rest.length < 4611686018427387904 → Ev (fun k => shuttlecockref06_stack.l0 k (pre ++ rest) s (pre.length : Int)) (fi (fun a => decide (a = s)) rest pre.length)
  | [], pre, _, _ => Ev.step (fun k => shuttlecockref06_stack.l0.eq_2 ..) (evNo (nlt_end pre) (Ev.now _))
  | a :: r, pre, hl, hs => by
    simp only [List.length_cons] at hs
    refine Ev.step (fun k => shuttlecockref06_stack.l0.eq_2 ..) (evYes (lt_mid pre a r) (evYes (by omega) ?_))
    rw [rdL_mid]
    refine Ev.bind (shuttlecockref06_SameStack.ev a s (hl a (by simp))) ?_
    unfold fi
    refine evIf (fun _ => Ev.now _) (fun _ => ?_)
    rw [w_snoc pre a (by omega), mid_snoc pre a r]
    have ih := shuttlecockref06_stack.l0_ev s r (pre ++ [a]) (fun l h => hl l (by simp [h])) (by rw [len1]; omega)
    rwa [len1 pre a] at ih ⊢
theorem shuttlecockref06_stack.ev (m : List (List T2)) (s : List T2) (hl : ∀ l ∈ m, l.length < 4611686018427387904) (hs : m.length < 4611686018427387904) : Ev (fun k => shuttlecockref06_stack.f k m s) (fi (fun a => decide (a = s)) m 0) := shuttlecockref06_stack.l0_ev s m [] hl (by show 0 + _ < _; omega)
theorem shuttlecockref06_find.l0_ev (s : ByteArray) : ∀ (rest pre : List ByteArray), pre.length + rest.length < 4611686018427387904 → Ev (fun k => shuttlecockref06_find.l0 k (pre ++ rest) s (pre.length : Int)) (fi (fun a => decide (a = s)) rest pre.length)
  | [], pre, _ => Ev.step (fun k => shuttlecockref06_find.l0.eq_2 ..) (evNo (nlt_end pre) (Ev.now _))
  | a :: r, pre, hs => by
    simp only [List.length_cons] at hs
    refine Ev.step (fun k => shuttlecockref06_find.l0.eq_2 ..) (evYes (lt_mid pre a r) (evYes (by omega) ?_))
    rw [rdOf_mid]
    unfold fi
    by_cases h : a = s
    · rw [if_pos (decide_eq_true h)]
      exact evYes (by rw [h]) (Ev.now _)
    · rw [if_neg (by simp [h])]
      refine evNo (fun e => h (eq_lst.1 e)) ?_
      rw [w_snoc pre a (by omega), mid_snoc pre a r]
      have ih := shuttlecockref06_find.l0_ev s r (pre ++ [a]) (by rw [len1]; omega)
      rwa [len1 pre a] at ih ⊢
theorem shuttlecockref06_find.ev (d : List ByteArray) (s : ByteArray) (hs : d.length < 4611686018427387904) : Ev (fun k => shuttlecockref06_find.f k d s) (fi (fun a => decide (a = s)) d 0) := shuttlecockref06_find.l0_ev s d [] (by show 0 + _ < _; omega)
/-- the first place is this one: nothing like it lies ahead -/
theorem fi_self {α : Type} [DecidableEq α] (pre : List α) (a : α) (r : List α) : fi (fun b => decide (b = a)) (pre ++ a :: r) 0 = (pre.length : Int) ↔ a ∉ pre := by
  constructor
  · intro h ha
    obtain ⟨j, e, hj⟩ := fi_pre (fun b => decide (b = a)) (a :: r) pre 0 ⟨a, ha, by simp⟩
    rw [h] at e
    omega
  · intro ha
    rw [fi_mid (fun b => decide (b = a)) a r (by simp) pre 0 (fun b hb => decide_eq_false (fun e => ha (e ▸ hb)))]
    omega
theorem shuttlecockref06_May.l2_ev (d : List ByteArray) (m : List (List T2)) (x : Int) (b : Bool) (hb : Ev (fun k => shuttlecockref06_May.l1 k (wrap64 (x + 1)) d m) b) : ∀ (rest pre : List T2), pre.length + rest.length < 4611686018427387904 → Ev (fun k => shuttlecockref06_May.l2 k x (pre ++ rest) (pre.length : Int) d m) (!rest.any (outF d.length) && b)
  | [], pre, _ => by
    refine Ev.step (fun k => shuttlecockref06_May.l2.eq_2 ..) (evNo (nlt_end pre) ?_)
    simpa using hb
  | a :: r, pre, hs => by
    simp only [List.length_cons] at hs
    refine Ev.step (fun k => shuttlecockref06_May.l2.eq_2 ..) (evYes (lt_mid pre a r) (evYes (by omega) ?_))
    rw [rd2_mid]
    have e : (!(a :: r).any (outF d.length)) = (!outF d.length a && !r.any (outF d.length)) := by rw [List.any_cons, Bool.not_or]
    rw [e]
    unfold outF
    by_cases h1 : a.f0 < 1
    · rw [decide_eq_true h1]
      exact evYes h1 (Ev.now _)
    rw [decide_eq_false h1]
    refine evNo h1 ?_
    by_cases h2 : a.f0 > (d.length : Int)
    · rw [decide_eq_true (show (d.length : Int) < a.f0 from h2)]
      exact evYes h2 (Ev.now _)
    rw [decide_eq_false (show ¬ (d.length : Int) < a.f0 from h2)]
    refine evNo h2 ?_
    have hf : shuttlecockref04_Fits.f a.f1 = some (!(decide (a.f1 < 0) || decide (4611686018427387904 ≤ a.f1))) := by
      unfold shuttlecockref04_Fits.f
      by_cases h3 : a.f1 ≥ 0
      · rw [if_pos h3, decide_eq_false (show ¬ a.f1 < 0 by omega), Bool.false_or]
        congr 1
        rw [Bool.eq_iff_iff, Bool.not_eq_true', decide_eq_false_iff_not, decide_eq_true_eq]
        omega
      · rw [if_neg h3, decide_eq_true (show a.f1 < 0 by omega)]
        rfl
    refine Ev.bind (evC hf) ?_
    rw [Bool.false_or, Bool.false_or]
    cases h4 : (decide (a.f1 < 0) || decide (4611686018427387904 ≤ a.f1)) with
    | true => exact evNo (by simp) (Ev.now _)
    | false =>
      refine evYes rfl ?_
      rw [w_snoc pre a (by omega), mid_snoc pre a r]
      have ih := shuttlecockref06_May.l2_ev d m x b hb r (pre ++ [a]) (by rw [len1]; omega)
      exact ih
theorem shuttlecockref06_May.l1_ev (d : List ByteArray) : ∀ (rest done : List (List T2)), (∀ l ∈ done ++ rest, l.length < 4611686018427387904) → done.length + rest.length ≤ 10000 → Ev (fun k => shuttlecockref06_May.l1 k (done.length : Int) d (done ++ rest)) (kAll d.length done rest)
  | [], done, _, _ => Ev.step (fun k => shuttlecockref06_May.l1.eq_2 ..) (evNo (nlt_end done) (Ev.now _))
  | l :: r, done, hl, hs => by
    simp only [List.length_cons] at hs
    have hll := hl l (by simp)
    have out : Ev (fun k => shuttlecockref06_May.j3 k (done.length : Int) l true d (done ++ l :: r)) false := Ev.step (fun k => shuttlecockref06_May.j3.eq_2 ..) (evYes rfl (Ev.now _))
    refine Ev.step (fun k => shuttlecockref06_May.l1.eq_2 ..) (evYes (lt_mid done l r) (evYes (by omega) ?_))
    rw [rdL_mid]
    unfold kAll framesB
    by_cases h1 : (l.length : Int) < 1
    · rw [if_pos (show l.length = 0 ∨ 100 < l.length by omega)]
      exact evYes h1 out
    refine evNo h1 ?_
    by_cases h2 : (l.length : Int) > 100
    · rw [if_pos (show l.length = 0 ∨ 100 < l.length by omega)]
      exact evYes h2 out
    refine evNo h2 (Ev.bind (shuttlecockref06_stack.ev _ l hl (by simp; omega)) ?_)
    rw [if_neg (show ¬ (l.length = 0 ∨ 100 < l.length) by omega)]
    by_cases h3 : l ∈ done
    · rw [decide_eq_true h3, show (fi (fun a => decide (a = l)) (done ++ l :: r) 0 != (done.length : Int)) = true from bne_iff_ne.2 (fun e => (fi_self done l r).1 e h3)]
      rw [Bool.not_true, Bool.and_false]
      exact out
    · rw [decide_eq_false h3, show (fi (fun a => decide (a = l)) (done ++ l :: r) 0 != (done.length : Int)) = false from bne_eq_false_iff_eq.2 ((fi_self done l r).2 h3)]
      rw [Bool.not_false, Bool.and_true]
      refine Ev.step (fun k => shuttlecockref06_May.j3.eq_2 ..) (evNo (by simp) ?_)
      have ih := shuttlecockref06_May.l1_ev d r (done ++ [l]) (by rw [← mid_snoc]; exact hl) (by rw [len1]; omega)
      refine shuttlecockref06_May.l2_ev d (done ++ l :: r) (done.length : Int) _ ?_ l [] (by show 0 + _ < _; omega)
      rw [w_snoc done l (by omega), mid_snoc done l r]
      exact ih
theorem shuttlecockref06_May.l0_ev (m : List (List T2)) (hm : ∀ l ∈ m, l.length < 4611686018427387904) (hml : m.length ≤ 10000) : ∀ (rest pre : List ByteArray), pre.length + rest.length ≤ 10000 → Ev (fun k => shuttlecockref06_May.l0 k (pre.length : Int) (pre ++ rest) m) (sAll pre rest && kAll ((pre ++ rest).length : Int) [] m)
  | [], pre, _ => by
    refine Ev.step (fun k => shuttlecockref06_May.l0.eq_2 ..) (evNo (nlt_end pre) ?_)
    exact shuttlecockref06_May.l1_ev (pre ++ []) m [] hm (by show 0 + _ ≤ _; omega)
  | s :: r, pre, hs => by
    simp only [List.length_cons] at hs
    refine Ev.step (fun k => shuttlecockref06_May.l0.eq_2 ..) (evYes (lt_mid pre s r) (evYes (by omega) ?_))
    rw [rdOf_mid]
    unfold sAll
    by_cases h1 : (s.size : Int) < 1
    · rw [decide_eq_false (show ¬ 1 ≤ s.size by omega)]
      exact evYes h1 (Ev.now _)
    rw [decide_eq_true (show 1 ≤ s.size by omega)]
    refine evNo h1 ?_
    by_cases h2 : (s.size : Int) > 1000
    · rw [decide_eq_false (show ¬ s.size ≤ 1000 by omega)]
      exact evYes h2 (Ev.now _)
    rw [decide_eq_true (show s.size ≤ 1000 by omega)]
    refine evNo h2 (Ev.bind (shuttlecockref06_find.ev _ s (by simp; omega)) ?_)
    by_cases h3 : s ∈ pre
    · rw [decide_eq_true h3]
      exact evNo (fun e => (fi_self pre s r).1 e h3) (Ev.now _)
    · rw [decide_eq_false h3]
      refine evYes ((fi_self pre s r).2 h3) ?_
      have ih := shuttlecockref06_May.l0_ev m hm hml r (pre ++ [s]) (by rw [len1]; omega)
      rw [w_snoc pre s (by omega), mid_snoc pre s r]
      exact ih
theorem shuttlecockref06_May.ev (d : List ByteArray) (m : List (List T2)) (hm : ∀ l ∈ m, l.length < 4611686018427387904) : Ev (fun k => shuttlecockref06_May.f k d m) (mayC d m) := by
  unfold mayC
  have out : Ev (fun k => shuttlecockref06_May.j0 k true d m) false := Ev.step (fun k => shuttlecockref06_May.j0.eq_2 ..) (evYes rfl (Ev.now _))
  by_cases h1 : (d.length : Int) > 10000
  · rw [decide_eq_false (show ¬ d.length ≤ 10000 by omega)]
    exact evYes h1 out
  refine evNo h1 ?_
  rw [decide_eq_true (show d.length ≤ 10000 by omega)]
  by_cases h2 : (m.length : Int) > 10000
  · rw [decide_eq_false (show ¬ m.length ≤ 10000 by omega), decide_eq_true h2]
    exact out
  rw [decide_eq_true (show m.length ≤ 10000 by omega), decide_eq_false h2]
  refine Ev.step (fun k => shuttlecockref06_May.j0.eq_2 ..) (evNo (by simp) ?_)
  exact shuttlecockref06_May.l0_ev m hm (by omega) d [] (by show 0 + _ ≤ _; omega)
/-- few strings and stacks, short ones -/
def SmallP (d : List ByteArray) (m : List (List T2)) : Prop := (∀ l ∈ m, l.length ≤ 30) ∧ d.length ≤ 60 ∧ m.length ≤ 60
theorem shuttlecockref06_Small.l1_ev (d : List ByteArray) : ∀ (rest pre : List (List T2)), (pre ++ rest).length < 4611686018427387904 → (∀ l ∈ pre, l.length ≤ 30) → ∃ b, Ev (fun k => shuttlecockref06_Small.l1 k (pre.length : Int) d (pre ++ rest)) b ∧ (b = true → SmallP d (pre ++ rest))
  | [], pre, _, hp => by
    by_cases h1 : (d.length : Int) ≤ 60
    · refine ⟨_, Ev.step (fun k => shuttlecockref06_Small.l1.eq_2 ..) (evNo (nlt_end pre) (evYes h1 (Ev.now _))), fun h => ?_⟩
      have := of_decide_eq_true h
      rw [List.append_nil] at *
      exact ⟨hp, by omega, by omega⟩
    · exact ⟨_, Ev.step (fun k => shuttlecockref06_Small.l1.eq_2 ..) (evNo (nlt_end pre) (evNo h1 (Ev.now _))), fun h => absurd h (by simp)⟩
  | a :: r, pre, hs, hp => by
    by_cases h1 : (a.length : Int) > 30
    · refine ⟨false, Ev.step (fun k => shuttlecockref06_Small.l1.eq_2 ..) (evYes (lt_mid pre a r) (evYes (by omega) ?_)), fun h => absurd h (by simp)⟩
      rw [rdL_mid]
      exact evYes h1 (Ev.now _)
    · obtain ⟨b, hb, hq⟩ := shuttlecockref06_Small.l1_ev d r (pre ++ [a]) (by rw [← mid_snoc]; exact hs) (fun l hl => by rcases List.mem_append.1 hl with h | h; (· exact hp l h); (· rw [List.mem_singleton.1 h]; omega))
      rw [← mid_snoc] at hb hq
      refine ⟨b, Ev.step (fun k => shuttlecockref06_Small.l1.eq_2 ..) (evYes (lt_mid pre a r) (evYes (by omega) ?_)), hq⟩
      rw [rdL_mid]
      refine evNo h1 ?_
      rw [w_snoc pre a (by simp at hs; omega)]
      exact hb
theorem shuttlecockref06_Small.l0_ev (m : List (List T2)) (hm : m.length < 4611686018427387904) : ∀ (rest pre : List ByteArray), (pre ++ rest).length < 4611686018427387904 → ∃ b, Ev (fun k => shuttlecockref06_Small.l0 k (pre.length : Int) (pre ++ rest) m) b ∧ (b = true → SmallP (pre ++ rest) m)
  | [], pre, _ => by
    obtain ⟨b, hb, hq⟩ := shuttlecockref06_Small.l1_ev (pre ++ []) m [] hm (by simp)
    exact ⟨b, Ev.step (fun k => shuttlecockref06_Small.l0.eq_2 ..) (evNo (nlt_end pre) hb), hq⟩
  | a :: r, pre, hs => by
    by_cases h1 : (a.size : Int) > 1100
    · refine ⟨false, Ev.step (fun k => shuttlecockref06_Small.l0.eq_2 ..) (evYes (lt_mid pre a r) (evYes (by omega) ?_)), fun h => absurd h (by simp)⟩
      rw [rdOf_mid]
      exact evYes h1 (Ev.now _)
    · obtain ⟨b, hb, hq⟩ := shuttlecockref06_Small.l0_ev m hm r (pre ++ [a]) (by rw [← mid_snoc]; exact hs)
      rw [← mid_snoc] at hb hq
      refine ⟨b, Ev.step (fun k => shuttlecockref06_Small.l0.eq_2 ..) (evYes (lt_mid pre a r) (evYes (by omega) ?_)), hq⟩
      rw [rdOf_mid]
      refine evNo h1 ?_
      rw [w_snoc pre a (by simp at hs; omega)]
      exact hb
theorem shuttlecockref06_Small.ev (d : List ByteArray) (m : List (List T2)) (hd : d.length < 4611686018427387904) (hm : m.length < 4611686018427387904) : ∃ b, Ev (fun k => shuttlecockref06_Small.f k d m) b ∧ (b = true → SmallP d m) := shuttlecockref06_Small.l0_ev m hm d [] hd
/-- are two tables the same? -/
theorem shuttlecockref06_Same.l1_ev (d d' : List ByteArray) : ∀ (ra rb pa pb : List (List T2)), pa.length = pb.length → ra.length = rb.length → (∀ l ∈ ra, l.length < 4611686018427387904) → pa.length + ra.length < 4611686018427387904 → Ev (fun k => shuttlecockref06_Same.l1 k (pa.length : Int) d (pa ++ ra) d' (pb ++ rb)) (decide (ra = rb))
  | [], [], pa, pb, _, _, _, _ => Ev.step (fun k => shuttlecockref06_Same.l1.eq_2 ..) (evNo (nlt_end pa) (Ev.now _))
  | [], _ :: _, _, _, _, h, _, _ => by simp at h
  | _ :: _, [], _, _, _, h, _, _ => by simp at h
  | a :: ra, b :: rb, pa, pb, hp, hr, hl, hs => by
    simp only [List.length_cons] at hr hs
    refine Ev.step (fun k => shuttlecockref06_Same.l1.eq_2 ..) (evYes (lt_mid pa a ra) (evYes (by omega) (evYes (by rw [hp]; exact lt_mid pb b rb) ?_)))
    rw [rdL_mid]
    have e2 : rd_L2 (pb ++ b :: rb) (pa.length : Int) = b := by rw [hp]; exact rdL_mid pb b rb
    rw [e2]
    refine Ev.bind (shuttlecockref06_SameStack.ev a b (hl a (by simp))) ?_
    by_cases h : a = b
    · subst h
      refine evYes (decide_eq_true rfl) ?_
      rw [w_snoc pa a (by omega), mid_snoc pa a ra, mid_snoc pb a rb]
      have ih := shuttlecockref06_Same.l1_ev d d' ra rb (pa ++ [a]) (pb ++ [a]) (by simp [hp]) (by omega) (fun l h => hl l (by simp [h])) (by rw [len1]; omega)
      have e : decide (a :: ra = a :: rb) = decide (ra = rb) := by simp
      rw [e]
      exact ih
    · rw [decide_eq_false h, decide_eq_false (fun e => h (List.cons.inj e).1)]
      exact evNo (by simp) (Ev.now _)
theorem shuttlecockref06_Same.l0_ev (m m' : List (List T2)) (hm : m.length = m'.length) (hl : ∀ l ∈ m, l.length < 4611686018427387904) (hml : m.length < 4611686018427387904) : ∀ (ra rb pa pb : List ByteArray), pa.length = pb.length → ra.length = rb.length → pa.length + ra.length < 4611686018427387904 → Ev (fun k => shuttlecockref06_Same.l0 k (pa.length : Int) (pa ++ ra) m (pb ++ rb) m') (decide (ra = rb) && decide (m = m'))
  | [], [], pa, pb, _, _, _ => by
    refine Ev.step (fun k => shuttlecockref06_Same.l0.eq_2 ..) (evNo (nlt_end pa) ?_)
    exact shuttlecockref06_Same.l1_ev _ _ m m' [] [] rfl hm hl (by show 0 + _ < _; omega)
  | [], _ :: _, _, _, _, h, _ => by simp at h
  | _ :: _, [], _, _, _, h, _ => by simp at h
  | a :: ra, b :: rb, pa, pb, hp, hr, hs => by
    simp only [List.length_cons] at hr hs
    refine Ev.step (fun k => shuttlecockref06_Same.l0.eq_2 ..) (evYes (lt_mid pa a ra) (evYes (by omega) (evYes (by rw [hp]; exact lt_mid pb b rb) ?_)))
    rw [rdOf_mid]
    have e2 : rdOf ByteArray.empty (pb ++ b :: rb) (pa.length : Int) = b := by rw [hp]; exact rdOf_mid _ pb b rb
    rw [e2]
    by_cases h : a = b
    · subst h
      refine evYes rfl ?_
      rw [w_snoc pa a (by omega), mid_snoc pa a ra, mid_snoc pb a rb]
      have ih := shuttlecockref06_Same.l0_ev m m' hm hl hml ra rb (pa ++ [a]) (pb ++ [a]) (by simp [hp]) (by omega) (by rw [len1]; omega)
      have e : decide (a :: ra = a :: rb) = decide (ra = rb) := by simp
      rw [e]
      exact ih
    · rw [decide_eq_false (fun e => h (List.cons.inj e).1), Bool.false_and]
      exact evNo (fun e => h (eq_lst.1 e)) (Ev.now _)
theorem shuttlecockref06_Same.ev (d d' : List ByteArray) (m m' : List (List T2)) (hl : ∀ l ∈ m, l.length < 4611686018427387904) (hml : m.length < 4611686018427387904) (hd : d.length < 4611686018427387904) : Ev (fun k => shuttlecockref06_Same.f k d m d' m') (decide (d = d') && decide (m = m')) := by
  have out : Ev (fun k => shuttlecockref06_Same.j0 k true d m d' m') false := Ev.step (fun k => shuttlecockref06_Same.j0.eq_2 ..) (evYes rfl (Ev.now _))
  by_cases h1 : d.length = d'.length
  · refine evYes (by omega) ?_
    by_cases h2 : m.length = m'.length
    · rw [show ((m.length : Int) != (m'.length : Int)) = false by simp [h2]]
      exact Ev.step (fun k => shuttlecockref06_Same.j0.eq_2 ..) (evNo (by simp) (shuttlecockref06_Same.l0_ev m m' h2 hl hml d d' [] [] rfl h1 (by show 0 + _ < _; omega)))
    · rw [show ((m.length : Int) != (m'.length : Int)) = true from bne_iff_ne.2 (by omega), decide_eq_false (show ¬ m = m' from fun e => h2 (by rw [e])), Bool.and_false]
      exact out
  · rw [decide_eq_false (show ¬ d = d' from fun e => h1 (by rw [e])), Bool.false_and]
    exact evNo (by omega) out
end Go.Proofs.Ytlmmlmmbnfcogaa.Q

/- A decoder of tables as plain functions: what it comes to, where it is wrong, cut off, and what it reads. No condition: plain lists and numbers alone. -/
namespace Go.Proofs.Ytlmmlmmbnfcogaa.Q
open Go Go.RowKit Go.Proofs.YtlmmlmmbnfcogaaW.PrintWords Go.Proofs.YtlmmlmmbnfcogaaW.PrintLast Go.Proofs.YtlmmlmmbnfcogaaW.PrintMore ShCore
/-- What a piece of a decoder comes to: what it hands back and the reader behind it, or an error and its place. -/
abbrev Out (α : Type) := (α × Rd) ⊕ (Int × Int)
abbrev Dc (α : Type) := List UInt8 → Rd → Out α
def Dc.bind {α β : Type} (d : Dc α) (c : α → Dc β) : Dc β := fun s r => match d s r with
  | .inl (a, r') => c a s r'
  | .inr y => .inr y
def Dc.now {α : Type} (a : α) : Dc α := fun _ r => .inl (a, r)
def Dc.need (b : Bool) : Dc Unit := fun _ r => if b = true then .inl ((), r) else .inr (70, r.a)
def dNum : Dc Int := fun s r => if (rdNum s r).2.e = 0 then .inl (rdNum s r) else .inr ((rdNum s r).2.e, (rdNum s r).2.f)
def dText : Dc ByteArray := fun s r => if (rdText s r).2.e = 0 then .inl (arr (rdText s r).1, (rdText s r).2) else .inr ((rdText s r).2.e, (rdText s r).2.f)
/-- A reader that is well: within the text, no error. -/
structure St (s : List UInt8) (r : Rd) : Prop where
  lo : 0 ≤ r.a
  hi : r.a ≤ s.length
  e : r.e = 0
  f : r.f = 0
structure Good {α : Type} (d : Dc α) : Prop where
  ok : ∀ s r a r', St s r → d s r = .inl (a, r') → St s r' ∧ r.a ≤ r'.a
  err : ∀ s r x y, St s r → d s r = .inr (x, y) → x ≠ 0 ∧ 0 ≤ y ∧ y ≤ s.length
  cut : ∀ s r a r', St s r → d s r = .inl (a, r') → ∀ c : Nat, r.a ≤ c → c ≤ s.length → (r'.a ≤ c → d (s.take c) r = .inl (a, r')) ∧ (c < r'.a → ∃ y : Int, y ≤ c ∧ d (s.take c) r = .inr (10, y))
/-- These bytes are read as this, wherever they stand. -/
def Reads {α : Type} (d : Dc α) (a : α) (b : List UInt8) : Prop := ∀ pre rest, d (pre ++ b ++ rest) ⟨pre.length, 0, 0⟩ = .inl (a, ⟨(pre.length : Int) + (b.length : Int), 0, 0⟩)
theorem St.at {s : List UInt8} {r : Rd} (h : St s r) : ∃ p : Nat, r = ⟨p, 0, 0⟩ ∧ p ≤ s.length := by
  obtain ⟨a, e, f⟩ := r
  obtain ⟨h1, h2, h3, h4⟩ := h
  simp only at h1 h2 h3 h4
  exact ⟨a.toNat, by rw [h3, h4, Int.toNat_of_nonneg h1], by omega⟩
theorem St.mk' {s : List UInt8} {p : Nat} (h : p ≤ s.length) : St s ⟨p, 0, 0⟩ := ⟨by simp only; omega, by simp only; omega, rfl, rfl⟩
theorem St.take {s : List UInt8} {r : Rd} (h : St s r) {c : Nat} (hc : r.a ≤ c) : St (s.take c) r := ⟨h.lo, by rw [List.length_take]; have := h.hi; omega, h.e, h.f⟩
theorem bind_inl {α β : Type} {d : Dc α} {c : α → Dc β} {s : List UInt8} {r r' : Rd} {a : α} (h : d s r = .inl (a, r')) : Dc.bind d c s r = c a s r' := by unfold Dc.bind; rw [h]
theorem bind_inr {α β : Type} {d : Dc α} {c : α → Dc β} {s : List UInt8} {r : Rd} {y : Int × Int} (h : d s r = .inr y) : Dc.bind d c s r = .inr y := by unfold Dc.bind; rw [h]
theorem bind_out {α β : Type} {d : Dc α} {c : α → Dc β} {s : List UInt8} {r : Rd} {o : Out β} (h : Dc.bind d c s r = o) : (∃ a r', d s r = .inl (a, r') ∧ c a s r' = o) ∨ ∃ y, d s r = .inr y ∧ o = .inr y := by
  cases hd : d s r with
  | inl x => obtain ⟨a, r'⟩ := x; rw [bind_inl hd] at h; exact .inl ⟨a, r', rfl, h⟩
  | inr y => rw [bind_inr hd] at h; exact .inr ⟨y, rfl, h.symm⟩
theorem Good.bind {α β : Type} {d : Dc α} {c : α → Dc β} (hd : Good d) (hc : ∀ a, Good (c a)) : Good (Dc.bind d c) where
  ok := fun s r a r' hs h => by
    rcases bind_out h with ⟨a1, r1, h1, h2⟩ | ⟨y, _, h2⟩
    · obtain ⟨s1, l1⟩ := hd.ok s r a1 r1 hs h1
      obtain ⟨s2, l2⟩ := (hc a1).ok s r1 a r' s1 h2
      exact ⟨s2, by omega⟩
    · cases h2
  err := fun s r x y hs h => by
    rcases bind_out h with ⟨a1, r1, h1, h2⟩ | ⟨z, h1, h2⟩
    · exact (hc a1).err s r1 x y (hd.ok s r a1 r1 hs h1).1 h2
    · cases h2; exact hd.err s r x y hs h1
  cut := fun s r a r' hs h c h0 h1 => by
    rcases bind_out h with ⟨a1, r1, e1, e2⟩ | ⟨y, _, e2⟩
    · obtain ⟨s1, l1⟩ := hd.ok s r a1 r1 hs e1
      obtain ⟨s2, l2⟩ := (hc a1).ok s r1 a r' s1 e2
      have k1 := hd.cut s r a1 r1 hs e1 c h0 h1
      by_cases hcc : r1.a ≤ c
      · have k2 := (hc a1).cut s r1 a r' s1 e2 c hcc h1
        rw [bind_inl (k1.1 hcc)]
        exact k2
      · obtain ⟨y, hy, ey⟩ := k1.2 (by omega)
        rw [bind_inr ey]
        exact ⟨fun hh => by omega, fun _ => ⟨y, hy, rfl⟩⟩
    · cases e2
theorem Good.now {α : Type} (a : α) : Good (Dc.now a) where
  ok := fun s r a' r' hs h => by cases h; exact ⟨hs, Int.le_refl _⟩
  err := fun s r x y hs h => by cases h
  cut := fun s r a' r' hs h c h0 h1 => by cases h; exact ⟨fun _ => rfl, fun hh => by omega⟩
theorem Good.need (b : Bool) : Good (Dc.need b) where
  ok := fun s r a' r' hs h => by
    unfold Dc.need at h
    split at h
    · cases h; exact ⟨hs, Int.le_refl _⟩
    · cases h
  err := fun s r x y hs h => by
    unfold Dc.need at h
    split at h
    · cases h
    · cases h; exact ⟨by decide, hs.lo, hs.hi⟩
  cut := fun s r a' r' hs h c h0 h1 => by
    unfold Dc.need at h ⊢
    split at h
    · rename_i hb; cases h; exact ⟨fun _ => if_pos hb, fun hh => by omega⟩
    · cases h
/-! #### numbers, texts -/
theorem num_back {s : List UInt8} {p : Nat} (h : (rdNum s ⟨p, 0, 0⟩).2.e = 0) : ∃ n u, rdNum s ⟨p, 0, 0⟩ = (n, ⟨((p + u : Nat) : Int), 0, 0⟩) ∧ put n ≠ [] ∧ (put n).length = u ∧ p + u ≤ s.length ∧ s = s.take p ++ put n ++ s.drop (p + u) := by
  have h0 : (takeL s (p : Int)).2.2 = 0 := by
    unfold rdNum at h
    simp only [if_true] at h
    split at h
    · rename_i h1; exact h1
    · rename_i h1; exact absurd h h1
  obtain ⟨_, u, e, h1, h9, hl, hp⟩ := takeL_back s p h0
  rw [Int.toNat_natCast] at hl hp
  have hlen : ((s.drop p).take u).length = u := by rw [List.length_take, List.length_drop]; omega
  refine ⟨(takeL s p).1, u, ?_, ?_, by rw [hp, hlen], hl, ?_⟩
  · unfold rdNum
    simp only [if_true, h0, e]
    refine Prod.ext rfl ?_
    simp only [Rd.mk.injEq, and_self, and_true]
    omega
  · intro hh
    rw [hp] at hh
    rw [hh] at hlen
    simp at hlen
    omega
  · rw [hp, List.append_assoc, ← List.drop_drop, List.take_append_drop, List.take_append_drop]
theorem dNum_at {n : Int} (hn : put n ≠ []) : Reads dNum n (put n) := fun pre rest => by
  unfold dNum
  rw [rdNum_at hn pre rest 0]
  rfl
theorem len_take {s : List UInt8} {p : Nat} (h : p ≤ s.length) : (s.take p).length = p := by rw [List.length_take]; omega
theorem Good.num : Good dNum where
  ok := fun s r a r' hs h => by
    obtain ⟨p, rfl, hp⟩ := hs.at
    unfold dNum at h
    split at h
    · rename_i h0
      obtain ⟨n, u, e, _, _, hl, _⟩ := num_back h0
      rw [e] at h
      cases h
      exact ⟨St.mk' hl, by simp only; omega⟩
    · cases h
  err := fun s r x y hs h => by
    obtain ⟨p, rfl, hp⟩ := hs.at
    unfold dNum at h
    split at h
    · cases h
    · rename_i h0
      cases h
      refine ⟨h0, ?_⟩
      unfold rdNum at h0 ⊢
      simp only [if_true] at h0 ⊢
      split
      · simp only; omega
      · simp only; omega
  cut := fun s r a r' hs h c h0 h1 => by
    obtain ⟨p, rfl, hp⟩ := hs.at
    unfold dNum at h
    split at h
    · rename_i he
      obtain ⟨n, u, e, hn, hu, hl, hsp⟩ := num_back he
      rw [e] at h
      cases h
      simp only at h0 ⊢
      have hpl := len_take hp
      constructor
      · intro hc
        have ht : s.take c = s.take p ++ put a ++ (s.drop (p + u)).take (c - ((s.take p).length + (put a).length)) := by
          have := take_in (s.take p) (put a) (s.drop (p + u)) c (by rw [hpl, hu]; omega)
          rwa [← hsp] at this
        have := dNum_at hn (s.take p) ((s.drop (p + u)).take (c - ((s.take p).length + (put a).length)))
        rw [← ht, hpl, hu] at this
        rw [this]
        rfl
      · intro hc
        have := rdNum_cut0 hn (s.take p) (s.drop (p + u)) c 0 (by rw [hpl]; omega) (by rw [hpl, hu]; omega)
        rw [← hsp, hpl] at this
        refine ⟨p, by omega, ?_⟩
        unfold dNum
        rw [this]
        rfl
    · cases h
theorem text_back {s : List UInt8} {p : Nat} (h : (rdText s ⟨p, 0, 0⟩).2.e = 0) : ∃ t, rdText s ⟨p, 0, 0⟩ = (t, ⟨((p + (text t).length : Nat) : Int), 0, 0⟩) ∧ p + (text t).length ≤ s.length ∧ t.length < 4611686018427387904 ∧ s = s.take p ++ text t ++ s.drop (p + (text t).length) := by
  have hn : (rdNum s ⟨p, 0, 0⟩).2.e = 0 := by
    unfold rdText at h
    simp only [if_true] at h
    split at h
    · rename_i h1; exact h1
    · exact h
  obtain ⟨n, u, e, hnn, hu, hl, hsp⟩ := num_back hn
  have hlt := (rdNum_nonneg s ⟨p, 0, 0⟩)
  rw [e] at hlt
  simp only at hlt
  unfold rdText at h ⊢
  simp only [if_true] at h ⊢
  rw [e] at h ⊢
  simp only [if_true, rdTake0] at h ⊢
  rw [if_neg (by omega)] at h ⊢
  by_cases hb : n > (s.length : Int) - ((p + u : Nat) : Int)
  · rw [if_pos hb] at h; simp at h
  · rw [if_neg hb] at h ⊢
    rw [Int.toNat_natCast]
    have htl : ((s.drop (p + u)).take n.toNat).length = n.toNat := by rw [List.length_take, List.length_drop]; omega
    have hput : put (((s.drop (p + u)).take n.toNat).length : Int) = put n := by rw [htl, Int.toNat_of_nonneg hlt.1]
    have hle : (text ((s.drop (p + u)).take n.toNat)).length = u + n.toNat := by unfold text; rw [List.length_append, hput, hu, htl]
    refine ⟨(s.drop (p + u)).take n.toNat, ?_, by rw [hle]; omega, by rw [htl]; omega, ?_⟩
    · refine Prod.ext rfl ?_
      simp only [Rd.mk.injEq, and_self, and_true]
      rw [hle]
      omega
    · rw [hle]
      unfold text
      rw [hput]
      have e1 : s.drop (p + (u + n.toNat)) = (s.drop (p + u)).drop n.toNat := by rw [List.drop_drop]; congr 1; omega
      rw [e1, List.append_assoc, List.append_assoc, List.take_append_drop, ← List.append_assoc]
      exact hsp
theorem dText_at (t : ByteArray) (ht : t.size < 4611686018427387904) : Reads dText t (text (lst t)) := fun pre rest => by
  unfold dText
  rw [rdText_at (lst t) (by rw [lst_length]; exact ht) pre rest 0]
  simp only [if_true, arr_lst]
theorem Good.txt : Good dText where
  ok := fun s r a r' hs h => by
    obtain ⟨p, rfl, hp⟩ := hs.at
    unfold dText at h
    split at h
    · rename_i h0
      obtain ⟨t, e, hl, _, _⟩ := text_back h0
      rw [e] at h
      cases h
      exact ⟨St.mk' hl, by simp only; omega⟩
    · cases h
  err := fun s r x y hs h => by
    obtain ⟨p, rfl, hp⟩ := hs.at
    unfold dText at h
    split at h
    · cases h
    · rename_i h0
      cases h
      refine ⟨h0, ?_⟩
      unfold rdText rdTake0 at h0 ⊢
      simp only [if_true] at h0 ⊢
      split
      · split
        · simp only; omega
        · split
          · simp only; omega
          · rename_i h1 h2 h3; rw [if_pos h1, if_neg h2, if_neg h3] at h0; exact absurd h1 h0
      · rename_i h1
        rw [if_neg h1] at h0
        unfold rdNum at h1 ⊢
        simp only [if_true] at h1 ⊢
        split
        · rename_i h2; rw [if_pos h2] at h1; exact absurd rfl h1
        · simp only; omega
  cut := fun s r a r' hs h c h0 h1 => by
    obtain ⟨p, rfl, hp⟩ := hs.at
    unfold dText at h
    split at h
    · rename_i he
      obtain ⟨t, e, hl, hlt, hsp⟩ := text_back he
      rw [e] at h
      cases h
      simp only at h0 ⊢
      have hpl := len_take hp
      have hlt' : (arr t).size < 4611686018427387904 := by rw [size_arr]; exact hlt
      constructor
      · intro hc
        have ht : s.take c = s.take p ++ text t ++ (s.drop (p + (text t).length)).take (c - ((s.take p).length + (text t).length)) := by
          have := take_in (s.take p) (text t) (s.drop (p + (text t).length)) c (by rw [hpl]; omega)
          rwa [← hsp] at this
        have := dText_at (arr t) hlt' (s.take p) ((s.drop (p + (text t).length)).take (c - ((s.take p).length + (text t).length)))
        rw [lst_arr, ← ht, hpl] at this
        rw [this]
        rfl
      · intro hc
        have hci := rdText_cut t hlt (s.take p) (s.drop (p + (text t).length)) c ⟨p, 0, 0⟩ (.inl ⟨rfl, by rw [hpl], by rw [hpl]; omega⟩)
        rw [← hsp, hpl] at hci
        obtain ⟨e1, e2⟩ := cutInv_end hci (by omega)
        refine ⟨_, e2, ?_⟩
        unfold dText
        rw [if_neg (by rw [e1]; decide), e1]
    · cases h
/-! #### read, one behind the other -/
theorem Reads.bind {α β : Type} {d : Dc α} {c : α → Dc β} {a : α} {a' : β} {b b' : List UInt8} (h : Reads d a b) (k : Reads (c a) a' b') : Reads (Dc.bind d c) a' (b ++ b') := fun pre rest => by
  have e : pre ++ (b ++ b') ++ rest = pre ++ b ++ (b' ++ rest) := by simp
  have e2 : pre ++ (b ++ b') ++ rest = (pre ++ b) ++ b' ++ rest := by simp
  have h1 := h pre (b' ++ rest)
  rw [← e] at h1
  have h2 := k (pre ++ b) rest
  rw [← e2] at h2
  rw [bind_inl h1]
  have e3 : ((pre ++ b).length : Int) = (pre.length : Int) + (b.length : Int) := by rw [List.length_append]; omega
  rw [e3] at h2
  rw [h2]
  have e4 : (pre.length : Int) + (b.length : Int) + (b'.length : Int) = (pre.length : Int) + ((b ++ b').length : Int) := by rw [List.length_append]; omega
  rw [e4]
theorem Reads.now {α : Type} (a : α) : Reads (Dc.now a) a [] := fun pre rest => by
  unfold Dc.now
  simp
theorem Reads.need {b : Bool} (h : b = true) : Reads (Dc.need b) () [] := fun pre rest => by
  unfold Dc.need
  rw [if_pos h]
  simp
end Go.Proofs.Ytlmmlmmbnfcogaa.Q

/- Tables as bytes, and read back, by plain lists: in whatever order, cut off, whatever the bytes. No condition: plain lists and numbers alone. -/
namespace Go.Proofs.Ytlmmlmmbnfcogaa.Q
open Go Go.RowKit Go.Proofs.YtlmmlmmbnfcogaaW.PrintWords Go.Proofs.YtlmmlmmbnfcogaaW.PrintLast Go.Proofs.YtlmmlmmbnfcogaaW.PrintMore ShCore
def dMany (most : Int) : Dc Int := Dc.bind dNum fun n => Dc.bind (Dc.need (decide (n ≤ most))) fun _ => Dc.now n
def dId (xs : List Bool) : Dc Int := Dc.bind dNum fun n => Dc.bind (Dc.need (decide (1 ≤ n) && decide (n ≤ xs.length) && !rdOf false xs (n - 1))) fun _ => Dc.now (n - 1)
def dFrs : Nat → List T2 → Dc (List T2)
  | 0, l => Dc.now l
  | k + 1, l => Dc.bind dNum fun a => Dc.bind dNum fun b => dFrs k (l ++ [⟨a, b⟩])
def dStack : Dc (List T2) := Dc.bind (dMany 100) fun n => dFrs n.toNat []
def dStrs : Nat → List Bool → List ByteArray → Dc (List ByteArray)
  | 0, _, ys => Dc.now ys
  | k + 1, xs, ys => Dc.bind (dId xs) fun j => Dc.bind dText fun t => dStrs k (xs.set j.toNat true) (ys.set j.toNat t)
def dStks : Nat → List Bool → List (List T2) → Dc (List (List T2))
  | 0, _, zs => Dc.now zs
  | k + 1, xs, zs => Dc.bind (dId xs) fun j => Dc.bind dStack fun t => dStks k (xs.set j.toNat true) (zs.set j.toNat t)
def dNames : Dc (List ByteArray) := Dc.bind (dMany 10000) fun n => dStrs n.toNat (List.replicate n.toNat false) (List.replicate n.toNat ByteArray.empty)
def dStacks : Dc (List (List T2)) := Dc.bind (dMany 10000) fun n => dStks n.toNat (List.replicate n.toNat false) (List.replicate n.toNat [])
def dTab : Dc (List ByteArray × List (List T2)) := Dc.bind dNames fun ys => Dc.bind dStacks fun zs => Dc.now (ys, zs)
def decT (s : List UInt8) : List ByteArray × List (List T2) × Int × Int := match dTab s ⟨0, 0, 0⟩ with
  | .inl ((ys, zs), r) => if r.a = s.length ∧ mayC ys zs = true then (ys, zs, (s.length : Int), 0) else ([], [], (s.length : Int), 70)
  | .inr (x, y) => ([], [], y, x)
theorem Good.many (m : Int) : Good (dMany m) := Good.num.bind fun _ => (Good.need _).bind fun _ => Good.now _
theorem Good.id (xs : List Bool) : Good (dId xs) := Good.num.bind fun _ => (Good.need _).bind fun _ => Good.now _
theorem Good.frs : ∀ (k : Nat) (l : List T2), Good (dFrs k l)
  | 0, l => Good.now l
  | k + 1, _ => Good.num.bind fun _ => Good.num.bind fun _ => Good.frs k _
theorem Good.stack : Good dStack := (Good.many _).bind fun _ => Good.frs _ _
theorem Good.strs : ∀ (k : Nat) (xs : List Bool) (ys : List ByteArray), Good (dStrs k xs ys)
  | 0, _, ys => Good.now ys
  | k + 1, xs, _ => (Good.id xs).bind fun _ => Good.txt.bind fun _ => Good.strs k _ _
theorem Good.stks : ∀ (k : Nat) (xs : List Bool) (zs : List (List T2)), Good (dStks k xs zs)
  | 0, _, zs => Good.now zs
  | k + 1, xs, _ => (Good.id xs).bind fun _ => Good.stack.bind fun _ => Good.stks k _ _
theorem Good.names : Good dNames := (Good.many _).bind fun _ => Good.strs _ _ _
theorem Good.stacks : Good dStacks := (Good.many _).bind fun _ => Good.stks _ _ _
theorem Good.tab : Good dTab := Good.names.bind fun _ => Good.stacks.bind fun _ => Good.now _
theorem St.zero (s : List UInt8) : St s ⟨0, 0, 0⟩ := ⟨Int.le_refl _, by simp only; omega, rfl, rfl⟩
theorem decT_inl {s : List UInt8} {ys : List ByteArray} {zs : List (List T2)} {r : Rd} (h : dTab s ⟨0, 0, 0⟩ = .inl ((ys, zs), r)) : decT s = if r.a = s.length ∧ mayC ys zs = true then (ys, zs, (s.length : Int), 0) else ([], [], (s.length : Int), 70) := by unfold decT; rw [h]
theorem decT_inr {s : List UInt8} {x y : Int} (h : dTab s ⟨0, 0, 0⟩ = .inr (x, y)) : decT s = ([], [], y, x) := by unfold decT; rw [h]
/-- What is decoded: it may be, or it is nothing, and where it is wrong lies within. -/
theorem decT_any (s : List UInt8) : (0 ≤ (decT s).2.2.1 ∧ (decT s).2.2.1 ≤ s.length) ∧ ((decT s).2.2.2 = 0 ∧ MayP (decT s).1 (decT s).2.1 ∨ ¬ (decT s).2.2.2 = 0 ∧ (decT s).1 = [] ∧ (decT s).2.1 = []) := by
  cases h : dTab s ⟨0, 0, 0⟩ with
  | inl x =>
    obtain ⟨⟨ys, zs⟩, r⟩ := x
    rw [decT_inl h]
    by_cases c : r.a = s.length ∧ mayC ys zs = true
    · rw [if_pos c]
      exact ⟨⟨by simp only; omega, Int.le_refl _⟩, .inl ⟨rfl, (mayC_iff ys zs).1 c.2⟩⟩
    · rw [if_neg c]
      exact ⟨⟨by simp only; omega, Int.le_refl _⟩, .inr ⟨show ¬ (70 : Int) = 0 by decide, rfl, rfl⟩⟩
  | inr y =>
    obtain ⟨x, y⟩ := y
    rw [decT_inr h]
    obtain ⟨h1, h2, h3⟩ := Good.tab.err s _ x y (St.zero s) h
    exact ⟨⟨h2, h3⟩, .inr ⟨h1, rfl, rfl⟩⟩
theorem May_nil : MayP [] [] := (mayC_iff [] []).1 (by decide)
theorem decT_may (s : List UInt8) : MayP (decT s).1 (decT s).2.1 := by
  rcases (decT_any s).2 with ⟨_, h⟩ | ⟨_, h1, h2⟩
  · exact h
  · rw [h1, h2]; exact May_nil
/-! #### each number once -/
def eachP (l : List Int) (n : Nat) : Prop := l.length = n ∧ (∀ i ∈ l, 1 ≤ i ∧ i ≤ (n : Int)) ∧ l.Nodup
/-! #### what has been read so far -/
section
variable {α : Type} (d : α) (ss : List α)
def mk (n : Nat) (pre : List Int) : List Bool := (List.range n).map fun (j : Nat) => decide (((j : Int) + 1) ∈ pre)
def pt (pre : List Int) : List α := (List.range ss.length).map fun (j : Nat) => if ((j : Int) + 1) ∈ pre then ss.getD j d else d
theorem mk_nil (n : Nat) : mk n [] = List.replicate n false := by
  unfold mk
  rw [List.eq_replicate_iff]
  exact ⟨by simp, by simp⟩
theorem mk_len (n : Nat) (pre : List Int) : (mk n pre).length = n := by unfold mk; simp
theorem map_range_set {β : Type} (f g : Nat → β) (n j : Nat) (v : β) (hg : ∀ i < n, g i = if i = j then v else f i) : ((List.range n).map f).set j v = (List.range n).map g := by
  refine List.ext_getElem (by simp) (fun i h1 h2 => ?_)
  simp only [List.length_set, List.length_map, List.length_range] at h1
  rw [List.getElem_set, List.getElem_map, List.getElem_map, List.getElem_range, hg i h1]
  by_cases h : j = i
  · rw [if_pos h, if_pos h.symm]
  · rw [if_neg h, if_neg (fun e => h e.symm)]
theorem mk_set {n : Nat} {i : Int} (h : 1 ≤ i ∧ i ≤ n) (pre : List Int) : (mk n pre).set (i - 1).toNat true = mk n (i :: pre) := by
  unfold mk
  refine map_range_set _ _ _ _ _ (fun j hj => ?_)
  by_cases e : j = (i - 1).toNat
  · rw [if_pos e, decide_eq_true]
    rw [List.mem_cons]
    exact .inl (by omega)
  · rw [if_neg e, decide_eq_decide, List.mem_cons]
    constructor
    · rintro (h1 | h1)
      · omega
      · exact h1
    · exact fun h1 => .inr h1
theorem mk_rd {n : Nat} {i : Int} (h : 1 ≤ i ∧ i ≤ n) (pre : List Int) : rdOf false (mk n pre) (i - 1) = decide (i ∈ pre) := by
  unfold rdOf mk
  have hl : (i - 1).toNat < n := by omega
  rw [List.getD_eq_getElem?_getD, List.getElem?_map, List.getElem?_range hl, Option.map_some, Option.getD_some, show (((i - 1).toNat : Nat) : Int) + 1 = i by omega]
end
/-! #### tables as bytes -/
def nameB (ss : List ByteArray) (i : Int) : List UInt8 := put i ++ text (lst (ss.getD (i - 1).toNat ByteArray.empty))
def frmB (x : T2) : List UInt8 := put x.f0 ++ put x.f1
def stkB (zs : List (List T2)) (i : Int) : List UInt8 := put i ++ (put ((zs.getD (i - 1).toNat []).length : Int) ++ (zs.getD (i - 1).toNat []).flatMap frmB)
def ordL (ss : List ByteArray) (zs : List (List T2)) (l1 l2 : List Int) : List UInt8 := (put (l1.length : Int) ++ l1.flatMap (nameB ss)) ++ (put (l2.length : Int) ++ l2.flatMap (stkB zs))
theorem put_id {i : Int} (h : 0 ≤ i) (h2 : i < 4611686018427387904) : put i ≠ [] := by
  obtain ⟨k, rfl⟩ : ∃ k : Nat, i = k := ⟨i.toNat, by omega⟩
  exact put_len_nat k (by omega)
theorem Reads.eq {α : Type} {d : Dc α} {a : α} {b b' : List UInt8} (h : Reads d a b) (e : b = b') : Reads d a b' := e ▸ h
end Go.Proofs.Ytlmmlmmbnfcogaa.Q

/- Orders of numbers, and the bytes of a table in an order, by plain lists. No condition. -/
namespace Go.Proofs.Ytlmmlmmbnfcogaa.Q
open Go Go.RowKit Go.Proofs.YtlmmlmmbnfcogaaW.PrintWords Go.Proofs.YtlmmlmmbnfcogaaW.PrintLast Go.Proofs.YtlmmlmmbnfcogaaW.PrintMore ShCore
theorem num_in {s : List UInt8} {r r' : Rd} {n : Int} (h : dNum s r = .inl (n, r')) : 0 ≤ n ∧ n < 4611686018427387904 := by
  have := rdNum_nonneg s r
  unfold dNum at h
  split at h
  · have e : (rdNum s r).1 = n := congrArg Prod.fst (Sum.inl.inj h)
    rw [← e]; exact this
  · cases h
theorem many_in {s : List UInt8} {r r' : Rd} {n m : Int} (h : dMany m s r = .inl (n, r')) : 0 ≤ n ∧ n ≤ m := by
  rcases bind_out h with ⟨a, r1, h1, h2⟩ | ⟨y, _, h2⟩
  · rcases bind_out h2 with ⟨u, r2, h3, h4⟩ | ⟨y, _, h4⟩
    · unfold Dc.need at h3
      split at h3
      · rename_i hb
        cases h4
        exact ⟨(num_in h1).1, of_decide_eq_true hb⟩
      · cases h3
    · cases h4
  · cases h2
theorem id_in {s : List UInt8} {r r' : Rd} {j : Int} {xs : List Bool} (h : dId xs s r = .inl (j, r')) : 0 ≤ j ∧ j < (xs.length : Int) := by
  rcases bind_out h with ⟨a, r1, h1, h2⟩ | ⟨y, _, h2⟩
  · rcases bind_out h2 with ⟨u, r2, h3, h4⟩ | ⟨y, _, h4⟩
    · unfold Dc.need at h3
      split at h3
      · rename_i hb
        cases h4
        simp only [Bool.and_eq_true, decide_eq_true_eq] at hb
        omega
      · cases h3
    · cases h4
  · cases h2
/-! #### each number once; the numbers from 1 on -/
def eachR (n : Nat) : List Int → List Int → Bool
  | _, [] => true
  | pre, i :: r => decide (1 ≤ i) && decide (i ≤ (n : Int)) && !decide (i ∈ pre) && eachR n (i :: pre) r
def eachC (l : List Int) (n : Nat) : Bool := eachR n [] l && decide (l.length = n)
theorem eachR_iff (n : Nat) : ∀ (l pre : List Int), eachR n pre l = true ↔ (∀ i ∈ l, 1 ≤ i ∧ i ≤ (n : Int)) ∧ l.Nodup ∧ ∀ i ∈ l, i ∉ pre
  | [], pre => by simp [eachR]
  | i :: l, pre => by
    unfold eachR
    simp only [Bool.and_eq_true, decide_eq_true_eq, Bool.not_eq_true', decide_eq_false_iff_not, eachR_iff n l, List.mem_cons, List.nodup_cons, forall_eq_or_imp, not_or]
    constructor
    · rintro ⟨⟨⟨a, b⟩, c⟩, d, e, f⟩
      exact ⟨⟨⟨a, b⟩, d⟩, ⟨fun h => (f i h).1 rfl, e⟩, c, fun j hj => (f j hj).2⟩
    · rintro ⟨⟨⟨a, b⟩, d⟩, ⟨g, e⟩, c, f⟩
      exact ⟨⟨⟨a, b⟩, c⟩, d, e, fun j hj => ⟨fun h => g (h ▸ hj), f j hj⟩⟩
theorem eachC_iff (l : List Int) (n : Nat) : eachC l n = true ↔ eachP l n := by
  unfold eachC eachP
  rw [Bool.and_eq_true, eachR_iff, decide_eq_true_eq]
  constructor
  · rintro ⟨⟨a, b, _⟩, c⟩; exact ⟨c, a, b⟩
  · rintro ⟨c, a, b⟩; exact ⟨⟨a, b, fun _ _ => by simp⟩, c⟩
def risF : Nat → Nat → List Int
  | 0, _ => []
  | d + 1, i => (((i + 1 : Nat) : Int)) :: risF d (i + 1)
theorem risF_len : ∀ d i, (risF d i).length = d
  | 0, _ => rfl
  | d + 1, i => by simp [risF, risF_len d (i + 1)]
/-! #### a table's bytes in an order -/
def ordB (ss : List ByteArray) (zs : List (List T2)) (l1 l2 : List Int) : ByteArray := if mayC ss zs = true ∧ eachC l1 ss.length = true ∧ eachC l2 zs.length = true then arr (ordL ss zs l1 l2) else (⟨#[]⟩ : ByteArray)
def encB (ss : List ByteArray) (zs : List (List T2)) : ByteArray := ordB ss zs (risF ss.length 0) (risF zs.length 0)
theorem ordB_yes {ss : List ByteArray} {zs : List (List T2)} {l1 l2 : List Int} (hm : MayP ss zs) (h1 : eachP l1 ss.length) (h2 : eachP l2 zs.length) : ordB ss zs l1 l2 = arr (ordL ss zs l1 l2) := if_pos ⟨(mayC_iff ss zs).2 hm, (eachC_iff l1 _).2 h1, (eachC_iff l2 _).2 h2⟩
theorem ordB_no {ss : List ByteArray} {zs : List (List T2)} {l1 l2 : List Int} (h : ¬ (MayP ss zs ∧ eachP l1 ss.length ∧ eachP l2 zs.length)) : ordB ss zs l1 l2 = (⟨#[]⟩ : ByteArray) := if_neg (fun e => h ⟨(mayC_iff ss zs).1 e.1, (eachC_iff l1 _).1 e.2.1, (eachC_iff l2 _).1 e.2.2⟩)
end Go.Proofs.Ytlmmlmmbnfcogaa.Q

/- The same, of tables that may be. -/
namespace Go.Proofs.Ytlmmlmmbnfcogaa.Q
open Go Go.RowKit Go.Proofs.YtlmmlmmbnfcogaaW.PrintWords Go.Proofs.YtlmmlmmbnfcogaaW.PrintLast Go.Proofs.YtlmmlmmbnfcogaaW.PrintMore ShCore
theorem may_big {d : List ByteArray} {m : List (List T2)} (h : MayP d m) : ∀ l ∈ m, l.length < 4611686018427387904 := fun l hl => by
  have := ((framesB_iff l _).1 (h.2.2.2.2.1 l hl)).1
  omega
theorem same_of {d d' : List ByteArray} {m m' : List (List T2)} (h : MayP d m) : Ev (fun k => shuttlecockref06_Same.f k d m d' m') (decide (d = d') && decide (m = m')) := shuttlecockref06_Same.ev d d' m m' (may_big h) (by have := h.2.1; omega) (by have := h.1; omega)
theorem same_self {d : List ByteArray} {m : List (List T2)} (h : MayP d m) : Ev (fun k => shuttlecockref06_Same.f k d m d m) true := by
  have := same_of (d' := d) (m' := m) h
  simpa using this
end Go.Proofs.Ytlmmlmmbnfcogaa.Q

/- What is fixed. -/
namespace Go.Proofs.Ytlmmlmmbnfcogaa.Q
open Go Go.RowKit Go.Proofs.YtlmmlmmbnfcogaaW.PrintWords Go.Proofs.YtlmmlmmbnfcogaaW.PrintLast Go.Proofs.YtlmmlmmbnfcogaaW.PrintMore ShCore
theorem ev_fixed : Ev (fun k => shuttlecocklaw07_fixed.f k) true := Ev.of shuttlecocklaw07_fixed.mono (k := 40) (by decide +kernel)
end Go.Proofs.Ytlmmlmmbnfcogaa.Q

/- What the program's functions over tables as bytes come to. For every table, every text that fits. -/
namespace Go.Proofs.Ytlmmlmmbnfcogaa.Q
open Go Go.RowKit Go.Proofs.YtlmmlmmbnfcogaaW.PrintWords Go.Proofs.YtlmmlmmbnfcogaaW.PrintLast Go.Proofs.YtlmmlmmbnfcogaaW.PrintMore ShCore
/-! #### the decoder -/
def emb {α : Type} (s : ByteArray) : Out α → (α × ByteArray × Int × Int × Int) ⊕ (Int × Int)
  | .inl (a, r) => .inl (a, s, r.a, r.e, r.f)
  | .inr y => .inr y
theorem evD {α β : Type} {s : ByteArray} {r : Rd} {d : Dc α} {c : α → Dc β} {g : Nat → Dec α} {h : Nat → (α × ByteArray × Int × Int × Int) → Dec β} (hg : Ev g (emb s (d (lst s) r)))
    (hh : ∀ a r', d (lst s) r = .inl (a, r') → Ev (fun k => h k (a, s, r'.a, r'.e, r'.f)) (emb s (c a (lst s) r'))) : Ev (fun k => (g k).bind (Sum.elim (h k) (fun y => some (.inr y)))) (emb s (Dc.bind d c (lst s) r)) := by
  cases hd : d (lst s) r with
  | inl x =>
    obtain ⟨a, r'⟩ := x
    rw [hd] at hg
    rw [bind_inl hd]
    exact Ev.bind hg (hh a r' hd)
  | inr y =>
    rw [hd] at hg
    rw [bind_inr hd]
    exact Ev.bind hg (Ev.now _)
theorem Dc.assoc {α β γ : Type} (d : Dc α) (c : α → Dc β) (e : β → Dc γ) : Dc.bind (Dc.bind d c) e = Dc.bind d (fun a => Dc.bind (c a) e) := by
  funext s r
  unfold Dc.bind
  cases d s r with
  | inl x => rfl
  | inr y => rfl
variable {s : ByteArray} {r : Rd}
theorem ev_num (hs : s.size < 4611686018427387904) (r : Rd) : Ev (fun k => table_decoder_num.f k s r.a r.e r.f) (emb s (dNum (lst s) r)) := by
  obtain ⟨n, r', hr⟩ : ∃ n r', rdNum (lst s) r = (n, r') := ⟨_, _, rfl⟩
  refine Ev.bind (rNum s r.a r.e r.f hs hr) ?_
  have e : (if r'.e = 0 then (.inl (n, s, r'.a, r'.e, r'.f) : (Int × ByteArray × Int × Int × Int) ⊕ (Int × Int)) else .inr (r'.e, r'.f)) = emb s (dNum (lst s) r) := by
    unfold dNum
    rw [hr]
    by_cases h : r'.e = 0
    · rw [if_pos h, if_pos h]; rfl
    · rw [if_neg h, if_neg h]; rfl
  rw [← e]
  exact Ev.now _
theorem ev_text (hs : s.size < 4611686018427387904) (h : St (lst s) r) : Ev (fun k => table_decoder_text.f k s r.a r.e r.f) (emb s (dText (lst s) r)) := by
  obtain ⟨n, r', hr⟩ : ∃ n r', rdText (lst s) r = (n, r') := ⟨_, _, rfl⟩
  refine Ev.bind (rText' s r.a r.e r.f hs ⟨h.lo, h.hi⟩ hr) ?_
  have e : (if r'.e = 0 then (.inl (arr n, s, r'.a, r'.e, r'.f) : (ByteArray × ByteArray × Int × Int × Int) ⊕ (Int × Int)) else .inr (r'.e, r'.f)) = emb s (dText (lst s) r) := by
    unfold dText
    rw [hr]
    by_cases h : r'.e = 0
    · rw [if_pos h, if_pos h]; rfl
    · rw [if_neg h, if_neg h]; rfl
  rw [← e]
  exact Ev.now _
theorem ev_many (hs : s.size < 4611686018427387904) (r : Rd) (m : Int) : Ev (fun k => table_decoder_many.f k s r.a r.e r.f m) (emb s (dMany m (lst s) r)) := by
  refine evD (ev_num hs r) (fun n r' _ => ?_)
  unfold Dc.bind Dc.need Dc.now
  by_cases h : n ≤ m
  · rw [if_pos h, decide_eq_true h]; exact Ev.now _
  · rw [if_neg h, decide_eq_false h]; exact Ev.now _
theorem ev_id (hs : s.size < 4611686018427387904) (r : Rd) (xs : List Bool) (hx : xs.length ≤ 10000) : Ev (fun k => table_decoder_id.f k s r.a r.e r.f xs) (emb s (dId xs (lst s) r)) := by
  refine evD (ev_num hs r) (fun n r' _ => evYes hx ?_)
  unfold Dc.bind Dc.need Dc.now
  by_cases h1 : 1 ≤ n
  · rw [if_pos h1, decide_eq_true h1]
    by_cases h2 : n ≤ (xs.length : Int)
    · rw [if_pos h2, decide_eq_true h2]
      by_cases h3 : rdOf false xs (n - 1) = true
      · rw [if_pos h3, h3]; exact Ev.now _
      · rw [if_neg h3, Bool.not_eq_true _ |>.mp h3]; exact Ev.now _
    · rw [if_neg h2, decide_eq_false h2]; exact Ev.now _
  · rw [if_neg h1, decide_eq_false h1]; exact Ev.now _
theorem ev_frs (hs : s.size < 4611686018427387904) : ∀ (d i : Nat) (l : List T2) (r : Rd), l.length ≤ i → i + d ≤ 100 → Ev (fun k => table_decoder_stack.l0 k ((i + d : Nat) : Int) l (i : Int) s r.a r.e r.f) (emb s (dFrs d l (lst s) r))
  | 0, i, l, r, _, _ => Ev.step (fun k => table_decoder_stack.l0.eq_2 ..) (evNo (by omega) (Ev.now _))
  | d + 1, i, l, r, hl, hi => by
    refine Ev.step (fun k => table_decoder_stack.l0.eq_2 ..) (evYes (by omega) (evD (ev_num hs r) (fun a r1 _ => evD (ev_num hs r1) (fun b r2 _ => evYes (by omega) ?_))))
    have ih := ev_frs hs d (i + 1) (l ++ [⟨a, b⟩]) r2 (by rw [List.length_append, List.length_singleton]; omega) (by omega)
    have e1 : wrap64 ((i : Int) + 1) = ((i + 1 : Nat) : Int) := by unfold wrap64; omega
    rw [e1, show i + (d + 1) = i + 1 + d by omega]
    exact ih
theorem ev_stack (hs : s.size < 4611686018427387904) : Ev (fun k => table_decoder_stack.f k s r.a r.e r.f) (emb s (dStack (lst s) r)) := by
  refine evD (ev_many hs r 100) (fun n r' h => ?_)
  have hn := many_in h
  have ih := ev_frs hs n.toNat 0 [] r' (by simp) (by omega)
  rw [Nat.zero_add, Int.toNat_of_nonneg hn.1] at ih
  exact ih
theorem ev_stks (hs : s.size < 4611686018427387904) (ys : List ByteArray) : ∀ (d i : Nat) (xs : List Bool) (zs : List (List T2)) (r : Rd), St (lst s) r → xs.length = i + d → zs.length = i + d → i + d ≤ 10000 →
    Ev (fun k => table_decoder_table.l2 k ys ((i + d : Nat) : Int) xs zs (i : Int) s r.a r.e r.f) (emb s (Dc.bind (dStks d xs zs) (fun zs => Dc.now (ys, zs)) (lst s) r))
  | 0, i, xs, zs, r, _, _, _, _ => Ev.step (fun k => table_decoder_table.l2.eq_2 ..) (evNo (by omega) (Ev.now _))
  | d + 1, i, xs, zs, r, hr, hx, hz, hi => by
    refine Ev.step (fun k => table_decoder_table.l2.eq_2 ..) (evYes (by omega) ?_)
    show Ev _ (emb s (Dc.bind (Dc.bind (dId xs) fun j => Dc.bind dStack fun t => dStks d (xs.set j.toNat true) (zs.set j.toNat t)) _ (lst s) r))
    rw [Dc.assoc]
    refine evD (ev_id hs r xs (by omega)) (fun j r1 h1 => evYes (by have := id_in h1; omega) ?_)
    rw [Dc.assoc]
    have s1 := ((Good.id xs).ok _ _ _ _ hr h1).1
    refine evD (ev_stack hs) (fun t r2 h2 => ?_)
    have s2 := (Good.stack.ok _ _ _ _ s1 h2).1
    have ih := ev_stks hs ys d (i + 1) (xs.set j.toNat true) (zs.set j.toNat t) r2 s2 (by rw [List.length_set]; omega) (by rw [List.length_set]; omega) (by omega)
    have e1 : wrap64 ((i : Int) + 1) = ((i + 1 : Nat) : Int) := by unfold wrap64; omega
    rw [e1, show i + (d + 1) = i + 1 + d by omega]
    exact ih
theorem ev_strs (hs : s.size < 4611686018427387904) : ∀ (d i : Nat) (xs : List Bool) (ys : List ByteArray) (r : Rd), St (lst s) r → xs.length = i + d → ys.length = i + d → i + d ≤ 10000 →
    Ev (fun k => table_decoder_table.l1 k ((i + d : Nat) : Int) xs ys (i : Int) s r.a r.e r.f) (emb s (Dc.bind (dStrs d xs ys) (fun ys => Dc.bind dStacks fun zs => Dc.now (ys, zs)) (lst s) r))
  | 0, i, xs, ys, r, hr, _, _, _ => by
    refine Ev.step (fun k => table_decoder_table.l1.eq_2 ..) (evNo (by omega) ?_)
    show Ev _ (emb s (Dc.bind (Dc.bind (dMany 10000) fun n => dStks n.toNat (List.replicate n.toNat false) (List.replicate n.toNat [])) _ (lst s) r))
    rw [Dc.assoc]
    refine evD (ev_many hs r 10000) (fun n r1 h1 => ?_)
    have hn := many_in h1
    refine evYes hn.1 ?_
    have ih := ev_stks hs ys n.toNat 0 (List.replicate n.toNat false) (List.replicate n.toNat []) r1 ((Good.many _).ok _ _ _ _ hr h1).1 (by simp) (by simp) (by omega)
    rw [Nat.zero_add] at ih
    rw [List.length_replicate]
    exact ih
  | d + 1, i, xs, ys, r, hr, hx, hy, hi => by
    refine Ev.step (fun k => table_decoder_table.l1.eq_2 ..) (evYes (by omega) ?_)
    show Ev _ (emb s (Dc.bind (Dc.bind (dId xs) fun j => Dc.bind dText fun t => dStrs d (xs.set j.toNat true) (ys.set j.toNat t)) _ (lst s) r))
    rw [Dc.assoc]
    refine evD (ev_id hs r xs (by omega)) (fun j r1 h1 => evYes (by have := id_in h1; omega) ?_)
    rw [Dc.assoc]
    have s1 := ((Good.id xs).ok _ _ _ _ hr h1).1
    refine evD (ev_text hs s1) (fun t r2 h2 => ?_)
    have s2 := (Good.txt.ok _ _ _ _ s1 h2).1
    have ih := ev_strs hs d (i + 1) (xs.set j.toNat true) (ys.set j.toNat t) r2 s2 (by rw [List.length_set]; omega) (by rw [List.length_set]; omega) (by omega)
    have e1 : wrap64 ((i : Int) + 1) = ((i + 1 : Nat) : Int) := by unfold wrap64; omega
    rw [e1, show i + (d + 1) = i + 1 + d by omega]
    exact ih
theorem ev_tab (hs : s.size < 4611686018427387904) (hr : St (lst s) r) : Ev (fun k => table_decoder_table.f k s r.a r.e r.f) (emb s (dTab (lst s) r)) := by
  show Ev _ (emb s (Dc.bind (Dc.bind (dMany 10000) fun n => dStrs n.toNat (List.replicate n.toNat false) (List.replicate n.toNat ByteArray.empty)) _ (lst s) r))
  rw [Dc.assoc]
  refine evD (ev_many hs r 10000) (fun n r1 h1 => ?_)
  have hn := many_in h1
  refine evYes hn.1 ?_
  have ih := ev_strs hs n.toNat 0 (List.replicate n.toNat false) (List.replicate n.toNat ByteArray.empty) r1 ((Good.many _).ok _ _ _ _ hr h1).1 (by simp) (by simp) (by omega)
  rw [Nat.zero_add] at ih
  rw [List.length_replicate]
  exact ih
theorem table_Decode.ev (s : ByteArray) (hs : s.size < 4611686018427387904) : Ev (fun k => table_Decode.f k s) (decT (lst s)) := by
  refine Ev.bind (ev_tab hs (St.zero (lst s))) ?_
  cases h : dTab (lst s) ⟨0, 0, 0⟩ with
  | inr y => obtain ⟨x, y⟩ := y; rw [decT_inr h]; exact Ev.now _
  | inl x =>
    obtain ⟨⟨ys, zs⟩, r1⟩ := x
    have h1 := (Good.tab.ok _ _ _ _ (St.zero _) h).1
    rw [decT_inl h]
    show Ev (fun k => if (r1.e == 0 && r1.a == (s.size : Int)) = true then _ else _) _
    rw [h1.e, ← lst_length s]
    by_cases ha : r1.a = (lst s).length
    · refine evYes (by rw [ha]; simp) (Ev.bind (intern_May.ev ys zs) ?_)
      by_cases hm : mayC ys zs = true
      · have e : (if r1.a = (lst s).length ∧ mayC ys zs = true then (ys, zs, ((lst s).length : Int), (0 : Int)) else ([], [], ((lst s).length : Int), 70)) = (ys, zs, ((lst s).length : Int), (0 : Int)) := if_pos ⟨ha, hm⟩
        rw [e]; exact evYes hm (Ev.now _)
      · have e : (if r1.a = (lst s).length ∧ mayC ys zs = true then (ys, zs, ((lst s).length : Int), (0 : Int)) else ([], [], ((lst s).length : Int), 70)) = ([], [], ((lst s).length : Int), 70) := if_neg (fun e => hm e.2)
        rw [e]; exact evNo hm (Ev.now _)
    · have e : (if r1.a = (lst s).length ∧ mayC ys zs = true then (ys, zs, ((lst s).length : Int), (0 : Int)) else ([], [], ((lst s).length : Int), 70)) = ([], [], ((lst s).length : Int), 70) := if_neg (fun e => ha e.1)
      rw [e]
      exact evNo (by rw [Bool.and_eq_true, beq_iff_eq, beq_iff_eq]; exact fun e => ha e.2) (Ev.now _)
/-! #### each number once; the numbers from 1 on -/
theorem table_each.l0_ev (n : Nat) (hn : n ≤ 281474976710656) (l : List Int) (hl : l.length < 4611686018427387904) : ∀ (rest pre : List Int), pre ++ rest = l → Ev (fun k => table_each.l0 k l (n : Int) (mk n pre.reverse) l (l.length : Int) (pre.length : Int)) (eachR n pre.reverse rest && decide (l.length = n))
  | [], pre, e => by
    subst e
    refine Ev.step (fun k => table_each.l0.eq_2 ..) (evNo (nlt_end pre) ?_)
    have e : (((pre ++ []).length : Int) == (n : Int)) = (eachR n pre.reverse [] && decide ((pre ++ []).length = n)) := by
      unfold eachR
      rw [Bool.true_and, Bool.eq_iff_iff, beq_iff_eq, decide_eq_true_eq]
      omega
    rw [← e]
    exact Ev.now _
  | i :: r, pre, e => by
    have hlt : (pre.length : Int) < (l.length : Int) := by rw [← e]; exact lt_mid pre i r
    refine Ev.step (fun k => table_each.l0.eq_2 ..) (evYes hlt (evYes (by omega) (evYes hlt ?_)))
    have ei : rd l (pre.length : Int) = i := by rw [← e]; unfold rd; rw [Int.toNat_natCast]; exact getD_mid ..
    rw [ei]
    unfold eachR
    by_cases h1 : i < 1
    · rw [decide_eq_false (show ¬ 1 ≤ i by omega)]
      exact evYes h1 (Ev.now _)
    rw [decide_eq_true (show 1 ≤ i by omega)]
    refine evNo h1 ?_
    by_cases h2 : i > (n : Int)
    · rw [decide_eq_false (show ¬ i ≤ (n : Int) by omega)]
      exact evYes h2 (Ev.now _)
    rw [decide_eq_true (show i ≤ (n : Int) by omega)]
    have ew : wrap64 (i - 1) = i - 1 := by unfold wrap64; omega
    rw [ew, mk_len]
    refine evNo h2 (evYes (by omega) (evYes (by omega) ?_))
    rw [mk_rd (by omega)]
    by_cases h3 : i ∈ pre.reverse
    · rw [decide_eq_true h3]
      exact evYes rfl (Ev.now _)
    · rw [decide_eq_false h3]
      refine evNo Bool.false_ne_true ?_
      rw [mk_set (by omega)]
      have ih := table_each.l0_ev n hn l hl r (pre ++ [i]) (by rw [← mid_snoc]; exact e)
      rw [show (pre ++ [i]).reverse = i :: pre.reverse by simp] at ih
      rw [w_snoc pre i (by omega)]
      simpa using ih
theorem table_each.ev (l : List Int) (n : Nat) (hl : l.length < 4611686018427387904) (hn : n ≤ 10000) : Ev (fun k => table_each.f k l (n : Int)) (eachC l n) := by
  have h := table_each.l0_ev n (by omega) l hl l [] rfl
  rw [List.reverse_nil, mk_nil] at h
  refine evYes (by omega) (evYes (by omega) ?_)
  rw [Int.toNat_natCast]
  exact h
theorem table_rising.l0_ev : ∀ (d i : Nat) (acc : List Int), acc.length ≤ i → i + d ≤ 1000000 → Ev (fun k => table_rising.l0 k acc ((i + d : Nat) : Int) (i : Int)) (acc ++ risF d i)
  | 0, i, acc, _, _ => by
    refine Ev.step (fun k => table_rising.l0.eq_2 ..) (evNo (by omega) ?_)
    rw [show risF 0 i = [] from rfl, List.append_nil]
    exact Ev.now _
  | d + 1, i, acc, ha, hi => by
    refine Ev.step (fun k => table_rising.l0.eq_2 ..) (evYes (by omega) (evYes (by omega) ?_))
    have e1 : wrap64 ((i : Int) + 1) = ((i + 1 : Nat) : Int) := by unfold wrap64; omega
    have ih := table_rising.l0_ev d (i + 1) (acc ++ [((i + 1 : Nat) : Int)]) (by rw [List.length_append, List.length_singleton]; omega) (by omega)
    rw [e1, show i + (d + 1) = i + 1 + d by omega]
    rw [List.append_assoc] at ih
    exact ih
theorem table_rising.ev (n : Nat) (hn : n ≤ 1000000) : Ev (fun k => table_rising.f k (n : Int)) (risF n 0) := by
  have h := table_rising.l0_ev n 0 [] (by simp) (by omega)
  rw [Nat.zero_add] at h
  exact h
/-! #### what is written -/
def pcL : Pc → List UInt8
  | .n l => numsL l
  | .s i t => numsL [i] ++ text (lst t)
  | .bad => []
def pcOk : Pc → Prop
  | .n l => l.length ≤ 2
  | .s _ t => t.size ≤ 1000
  | .bad => False
theorem numsL_len (l : List Int) : (numsL l).length ≤ 9 * l.length := by
  unfold numsL
  cases h : numsO l with
  | none => simp
  | some b => exact nums_len l b h
theorem pcF.ev : ∀ (p : Pc), pcOk p → Ev (fun k => pcF k p) (arr (pcL p)) ∧ (pcL p).length ≤ 1100
  | .n l, h => ⟨wire_Nums.ev l (by have : l.length ≤ 2 := h; omega), by have h1 : l.length ≤ 2 := h; have := numsL_len l; show (numsL l).length ≤ _; omega⟩
  | .s i t, h => by
    have h1 : t.size ≤ 1000 := h
    have h2 := numsL_len [i]
    have h3 := text_len (lst t)
    rw [lst_length] at h3
    simp only [List.length_singleton] at h2
    refine ⟨Ev.bind (wire_Nums.ev [i] (by simp)) (Ev.bind (wire_Text.ev t (by omega)) (evYes (by rw [size_arr, size_arr]; omega) ?_)), ?_⟩
    · rw [arr_append]; exact Ev.now _
    · show (numsL [i] ++ text (lst t)).length ≤ _
      rw [List.length_append]; omega
theorem encK.ev : ∀ (ps : List Pc) (acc : ByteArray), (∀ p ∈ ps, pcOk p) → acc.size + 1100 * ps.length ≤ 140737488355328 → Ev (fun k => encK k acc ps) (acc ++ arr (ps.flatMap pcL))
  | [], acc, _, _ => by
    rw [show acc ++ arr (([] : List Pc).flatMap pcL) = acc from lst_inj (by rw [lst_append]; exact List.append_nil _)]
    exact Ev.now _
  | p :: ps, acc, h, hs => by
    simp only [List.length_cons] at hs
    obtain ⟨h1, h2⟩ := pcF.ev p (h p (by simp))
    refine Ev.bind h1 (evYes (by rw [size_arr]; omega) ?_)
    have ih := encK.ev ps (acc ++ arr (pcL p)) (fun q hq => h q (by simp [hq])) (by rw [ByteArray.size_append, size_arr]; omega)
    rw [ByteArray.append_assoc, arr_append] at ih
    exact ih
theorem nums1 {a : Int} (h : put a ≠ []) : numsL [a] = put a := by
  rcases numsL_cases [a] with ⟨⟨n, hn, e⟩, _⟩ | ⟨_, e⟩
  · rw [List.mem_singleton] at hn
    rw [hn] at e
    exact absurd e h
  · rw [e]; simp
theorem nums2 {a b : Int} (h : put a ≠ []) (k : put b ≠ []) : numsL [a, b] = put a ++ put b := by
  rcases numsL_cases [a, b] with ⟨⟨n, hn, e⟩, _⟩ | ⟨_, e⟩
  · rcases List.mem_cons.1 hn with e2 | hn
    · rw [e2] at e; exact absurd e h
    · rw [List.mem_singleton] at hn
      rw [hn] at e
      exact absurd e k
  · rw [e]; simp
section
variable {ss : List ByteArray} {zs : List (List T2)} (hm : MayP ss zs)
include hm
theorem name_ok {i : Int} (h : 1 ≤ i ∧ i ≤ (ss.length : Int)) : pcOk (nameP ss i) ∧ pcL (nameP ss i) = nameB ss i := by
  have hl := hm.1
  have hlt : (i - 1).toNat < ss.length := by omega
  unfold nameP
  rw [if_pos h]
  refine ⟨?_, ?_⟩
  · show (rdOf ByteArray.empty ss (i - 1)).size ≤ 1000
    unfold rdOf
    rw [List.getD_eq_getElem?_getD, List.getElem?_eq_getElem hlt, Option.getD_some]
    exact (hm.2.2.1 _ (List.getElem_mem _)).2
  · show numsL [i] ++ text (lst (rdOf ByteArray.empty ss (i - 1))) = nameB ss i
    rw [nums1 (put_id (by omega) (by omega))]
    rfl
theorem stk_at {i : Int} (h : 1 ≤ i ∧ i ≤ (zs.length : Int)) : framesB (zs.getD (i - 1).toNat []) ss.length = true := by
  have hlt : (i - 1).toNat < zs.length := by omega
  rw [List.getD_eq_getElem?_getD, List.getElem?_eq_getElem hlt, Option.getD_some]
  exact hm.2.2.2.2.1 _ (List.getElem_mem _)
theorem stack_ok {i : Int} (h : 1 ≤ i ∧ i ≤ (zs.length : Int)) : (∀ p ∈ stackP zs i, pcOk p) ∧ (stackP zs i).flatMap pcL = stkB zs i ∧ (stackP zs i).length ≤ 101 := by
  have hl := hm.1
  have hz := hm.2.1
  have hf := stk_at hm h
  have h1 := ((framesB_iff _ _).1 hf).1
  have h2 := fine_of hf (by omega)
  unfold stackP stkB
  rw [if_pos h]
  have er : rd_stk zs (i - 1) = zs.getD (i - 1).toNat [] := rfl
  rw [er]
  generalize zs.getD (i - 1).toNat [] = l at h1 h2
  have hr : (rowF l).flatMap pcL = l.flatMap frmB := by
    unfold rowF
    rw [List.flatMap_map]
    clear h1
    induction l with
    | nil => rfl
    | cons x l ih =>
      have hx := h2 x (by simp)
      rw [List.flatMap_cons, List.flatMap_cons, ih (fun y hy => h2 y (by simp [hy]))]
      have e : pcL (.n [x.f0, x.f1]) = frmB x := nums2 (put_id hx.1.1 hx.1.2) (put_id hx.2.1 hx.2.2)
      rw [e]
  refine ⟨?_, ?_, ?_⟩
  · intro p hp
    rcases List.mem_cons.1 hp with e | hp
    · rw [e]; show [i, (l.length : Int)].length ≤ 2; simp
    · unfold rowF at hp
      rw [List.mem_map] at hp
      obtain ⟨x, _, e⟩ := hp
      rw [← e]
      show [x.f0, x.f1].length ≤ 2
      simp
  · rw [List.flatMap_cons, hr]
    have e : pcL (.n [i, (l.length : Int)]) = put i ++ put (l.length : Int) := nums2 (put_id (by omega) (by omega)) (put_id (by omega) (by omega))
    rw [e, List.append_assoc]
  · simp only [List.length_cons, rowF, List.length_map]
    omega
theorem ord_ok {l1 l2 : List Int} (h1 : eachP l1 ss.length) (h2 : eachP l2 zs.length) : (∀ p ∈ ordP ss zs l1 l2, pcOk p) ∧ (ordP ss zs l1 l2).flatMap pcL = ordL ss zs l1 l2 ∧ (ordP ss zs l1 l2).length ≤ 1100000 := by
  have hl := hm.1
  have hz := hm.2.1
  have en : (l1.map (nameP ss)).flatMap pcL = l1.flatMap (nameB ss) := by
    rw [List.flatMap_map]
    have h := h1.2.1
    clear h1
    induction l1 with
    | nil => rfl
    | cons i l ih =>
      rw [List.flatMap_cons, List.flatMap_cons, (name_ok hm (h i (by simp))).2, ih (fun j hj => h j (by simp [hj]))]
  have es : (l2.flatMap (stackP zs)).flatMap pcL = l2.flatMap (stkB zs) := by
    have h := h2.2.1
    clear h2
    induction l2 with
    | nil => rfl
    | cons i l ih =>
      rw [List.flatMap_cons, List.flatMap_cons, List.flatMap_append, (stack_ok hm (h i (by simp))).2.1, ih (fun j hj => h j (by simp [hj]))]
  have el : ∀ l : List Int, (∀ i ∈ l, 1 ≤ i ∧ i ≤ (zs.length : Int)) → (l.flatMap (stackP zs)).length ≤ 101 * l.length := by
    intro l h
    induction l with
    | nil => simp
    | cons i l ih =>
      have a := (stack_ok hm (h i (by simp))).2.2
      have b := ih (fun j hj => h j (by simp [hj]))
      rw [List.flatMap_cons, List.length_append, List.length_cons]
      omega
  refine ⟨?_, ?_, ?_⟩
  · intro p hp
    unfold ordP at hp
    rcases List.mem_cons.1 hp with e | hp
    · rw [e]; show [(l1.length : Int)].length ≤ 2; simp
    rcases List.mem_append.1 hp with hp | hp
    · rw [List.mem_map] at hp
      obtain ⟨i, hi, e⟩ := hp
      rw [← e]
      exact (name_ok hm (h1.2.1 i hi)).1
    rcases List.mem_cons.1 hp with e | hp
    · rw [e]; show [(l2.length : Int)].length ≤ 2; simp
    · rw [List.mem_flatMap] at hp
      obtain ⟨i, hi, hp⟩ := hp
      exact (stack_ok hm (h2.2.1 i hi)).1 p hp
  · unfold ordP ordL
    rw [List.flatMap_cons, List.flatMap_append, List.flatMap_cons, en, es]
    have e1 : pcL (.n [(l1.length : Int)]) = put (l1.length : Int) := nums1 (put_id (by omega) (by rw [h1.1]; omega))
    have e2 : pcL (.n [(l2.length : Int)]) = put (l2.length : Int) := nums1 (put_id (by omega) (by rw [h2.1]; omega))
    rw [e1, e2, List.append_assoc]
  · have := el l2 h2.2.1
    have := h1.1
    have := h2.1
    unfold ordP
    rw [List.length_cons, List.length_append, List.length_map, List.length_cons]
    omega
end
theorem table_Order.ev (ss : List ByteArray) (zs : List (List T2)) (l1 l2 : List Int) (hl1 : l1.length < 4611686018427387904) (hl2 : l2.length < 4611686018427387904) : Ev (fun k => table_Order.f k ss zs l1 l2) (ordB ss zs l1 l2) := by
  refine Ev.bind (intern_May.ev ss zs) ?_
  by_cases hm : mayC ss zs = true
  · have hp := (mayC_iff ss zs).1 hm
    refine evYes hm (Ev.bind (table_each.ev l1 ss.length hl1 hp.1) ?_)
    by_cases h1 : eachC l1 ss.length = true
    · refine evYes h1 (Ev.bind (table_each.ev l2 zs.length hl2 hp.2.1) ?_)
      by_cases h2 : eachC l2 zs.length = true
      · refine evYes h2 ?_
        obtain ⟨a, b, c⟩ := ord_ok hp ((eachC_iff l1 _).1 h1) ((eachC_iff l2 _).1 h2)
        have h := encK.ev (ordP ss zs l1 l2) (⟨#[]⟩ : ByteArray) a (by show 0 + _ ≤ _; omega)
        rw [b, show (⟨#[]⟩ : ByteArray) ++ arr (ordL ss zs l1 l2) = arr (ordL ss zs l1 l2) from lst_inj (by rw [lst_append]; exact List.nil_append _)] at h
        rw [ordB_yes hp ((eachC_iff l1 _).1 h1) ((eachC_iff l2 _).1 h2)]
        exact h
      · rw [ordB_no (fun h => h2 ((eachC_iff l2 _).2 h.2.2))]
        exact evNo h2 (Ev.now _)
    · rw [ordB_no (fun h => h1 ((eachC_iff l1 _).2 h.2.1))]
      exact evNo h1 (Ev.now _)
  · rw [ordB_no (fun h => hm ((mayC_iff ss zs).2 h.1))]
    exact evNo hm (Ev.now _)
theorem table_Encode.ev (ss : List ByteArray) (zs : List (List T2)) (h1 : ss.length ≤ 1000000) (h2 : zs.length ≤ 1000000) : Ev (fun k => table_Encode.f k ss zs) (encB ss zs) := by
  refine Ev.bind (table_rising.ev ss.length h1) (Ev.bind (table_rising.ev zs.length h2) (Ev.bind (table_Order.ev ss zs _ _ (by rw [risF_len]; omega) (by rw [risF_len]; omega)) ?_))
  exact Ev.now _
end Go.Proofs.Ytlmmlmmbnfcogaa.Q

/- What the document's functions over tables as bytes come to. For every table, every text that fits. -/
namespace Go.Proofs.Ytlmmlmmbnfcogaa.Q
open Go Go.RowKit Go.Proofs.Ytlmmlmmbnfcogaa.RefT Go.Proofs.YtlmmlmmbnfcogaaW.PrintWords Go.Proofs.YtlmmlmmbnfcogaaW.PrintLast Go.Proofs.YtlmmlmmbnfcogaaW.PrintMore ShCore
/-! #### the decoder -/
/-- A list, a place and an error, and the reader: what is told of a piece. -/
def RefO {α : Type} (nil : α) (s : ByteArray) (g : Nat → Option (α × Int × Int × ByteArray × Int × Int × Int)) : Out α → Prop
  | .inl (a, r) => Ev g (a, 0, 0, s, r.a, r.e, r.f)
  | .inr (x, y) => x ≠ 0 ∧ ∃ q, Ev g (nil, y, x, q)
theorem RefO.imp {α : Type} {nil : α} {s : ByteArray} {g g' : Nat → Option (α × Int × Int × ByteArray × Int × Int × Int)} {o : Out α} (h : RefO nil s g o) (hg : ∀ v, Ev g v → Ev g' v) : RefO nil s g' o := by
  cases o with
  | inl x => exact hg _ h
  | inr y => exact ⟨h.1, h.2.imp fun q hq => hg _ hq⟩
theorem num_stuck {s : List UInt8} {r : Rd} (h : ¬ r.e = 0) : rdNum s r = (0, r) := by unfold rdNum; rw [if_neg h]
theorem dNum_yes {s : List UInt8} {r r' : Rd} {n : Int} (h : rdNum s r = (n, r')) (he : r'.e = 0) : dNum s r = .inl (n, r') := by unfold dNum; rw [h, if_pos he]
theorem dNum_no {s : List UInt8} {r r' : Rd} {n : Int} (h : rdNum s r = (n, r')) (he : ¬ r'.e = 0) : dNum s r = .inr (r'.e, r'.f) := by unfold dNum; rw [h, if_neg he]
theorem dText_yes {s : List UInt8} {r r' : Rd} {t : List UInt8} (h : rdText s r = (t, r')) (he : r'.e = 0) : dText s r = .inl (arr t, r') := by unfold dText; rw [h, if_pos he]
theorem dText_no {s : List UInt8} {r r' : Rd} {t : List UInt8} (h : rdText s r = (t, r')) (he : ¬ r'.e = 0) : dText s r = .inr (r'.e, r'.f) := by unfold dText; rw [h, if_neg he]
variable {s : ByteArray} {r : Rd}
theorem ref_frs (hs : s.size < 4611686018427387904) : ∀ (d i : Nat) (l : List T2) (r : Rd), l.length ≤ i → i + d ≤ 100 → RefO [] s (fun k => shuttlecockref07_frames.l0 k ((i + d : Nat) : Int) l (i : Int) s r.a r.e r.f) (dFrs d l (lst s) r)
  | 0, i, l, r, _, _ => Ev.step (fun k => shuttlecockref07_frames.l0.eq_2 ..) (evNo (by omega) (Ev.now _))
  | d + 1, i, l, r, hl, hi => by
    obtain ⟨a, r1, h1⟩ : ∃ n r', rdNum (lst s) r = (n, r') := ⟨_, _, rfl⟩
    obtain ⟨b, r2, h2⟩ : ∃ n r', rdNum (lst s) r1 = (n, r') := ⟨_, _, rfl⟩
    have n1 := refNum s r.a r.e r.f hs h1
    have n2 := refNum s r1.a r1.e r1.f hs h2
    show RefO _ _ _ (Dc.bind dNum (fun a => Dc.bind dNum fun b => dFrs d (l ++ [⟨a, b⟩])) (lst s) r)
    by_cases e1 : r1.e = 0
    · rw [bind_inl (dNum_yes h1 e1)]
      by_cases e2 : r2.e = 0
      · rw [bind_inl (dNum_yes h2 e2)]
        have ih := ref_frs hs d (i + 1) (l ++ [⟨a, b⟩]) r2 (by rw [List.length_append, List.length_singleton]; omega) (by omega)
        have ew : wrap64 ((i : Int) + 1) = ((i + 1 : Nat) : Int) := by unfold wrap64; omega
        refine ih.imp fun v hv => Ev.step (fun k => shuttlecockref07_frames.l0.eq_2 ..) (evYes (by omega) (Ev.bind n1 (Ev.bind n2 (evYes e2 (evYes (by omega) ?_)))))
        rw [ew, show i + (d + 1) = i + 1 + d by omega]
        exact hv
      · rw [bind_inr (dNum_no h2 e2)]
        exact ⟨e2, _, Ev.step (fun k => shuttlecockref07_frames.l0.eq_2 ..) (evYes (by omega) (Ev.bind n1 (Ev.bind n2 (evNo e2 (Ev.now _)))))⟩
    · rw [bind_inr (dNum_no h1 e1)]
      have e3 : (b, r2) = (0, r1) := by rw [← h2]; exact num_stuck e1
      obtain ⟨rfl, rfl⟩ := Prod.mk.inj e3
      exact ⟨e1, _, Ev.step (fun k => shuttlecockref07_frames.l0.eq_2 ..) (evYes (by omega) (Ev.bind n1 (Ev.bind n2 (evNo e1 (Ev.now _)))))⟩
theorem ref_many {m : Int} {n : Int} {r r1 : Rd} (h1 : rdNum (lst s) r = (n, r1)) (e1 : r1.e = 0) : dMany m (lst s) r = if n ≤ m then .inl (n, r1) else .inr (70, r1.a) := by
  unfold dMany
  rw [bind_inl (dNum_yes h1 e1)]
  unfold Dc.bind Dc.need Dc.now
  by_cases h : n ≤ m
  · rw [if_pos h, decide_eq_true h]; rfl
  · rw [if_neg h, decide_eq_false h]; rfl
theorem ref_many_no {m : Int} {n : Int} {r r1 : Rd} (h1 : rdNum (lst s) r = (n, r1)) (e1 : ¬ r1.e = 0) : dMany m (lst s) r = .inr (r1.e, r1.f) := by
  unfold dMany
  rw [bind_inr (dNum_no h1 e1)]
theorem ref_stack (hs : s.size < 4611686018427387904) (r : Rd) : RefO [] s (fun k => shuttlecockref07_frames.f k s r.a r.e r.f) (dStack (lst s) r) := by
  obtain ⟨n, r1, h1⟩ : ∃ n r', rdNum (lst s) r = (n, r') := ⟨_, _, rfl⟩
  have n1 := refNum s r.a r.e r.f hs h1
  have hn := rdNum_nonneg (lst s) r
  rw [h1] at hn
  simp only at hn
  show RefO _ _ _ (Dc.bind (dMany 100) (fun n => dFrs n.toNat []) (lst s) r)
  by_cases e1 : r1.e = 0
  · have hm := ref_many (m := 100) h1 e1
    by_cases h2 : n ≤ 100
    · rw [if_pos h2] at hm
      rw [bind_inl hm]
      have ih := ref_frs hs n.toNat 0 [] r1 (by simp) (by omega)
      rw [Nat.zero_add, Int.toNat_of_nonneg hn.1] at ih
      exact ih.imp fun v hv => Ev.bind n1 (evYes e1 (evNo (show ¬ n > 100 by omega) hv))
    · rw [if_neg h2] at hm
      rw [bind_inr hm]
      exact ⟨by decide, _, Ev.bind n1 (evYes e1 (evYes (show n > 100 by omega) (Ev.now _)))⟩
  · rw [bind_inr (ref_many_no (m := 100) h1 e1)]
    exact ⟨e1, _, Ev.bind n1 (evNo e1 (Ev.now _))⟩
theorem ref_fresh (n : Int) (xs : List Bool) (hx : xs.length ≤ 10000) : shuttlecockref07_fresh.f n xs = some (decide (1 ≤ n) && decide (n ≤ xs.length) && !rdOf false xs (n - 1)) := by
  unfold shuttlecockref07_fresh.f
  by_cases h1 : n < 1
  · rw [if_pos h1, decide_eq_false (show ¬ 1 ≤ n by omega)]; rfl
  rw [if_neg h1, decide_eq_true (show 1 ≤ n by omega)]
  by_cases h2 : n > (xs.length : Int)
  · rw [if_pos h2, decide_eq_false (show ¬ n ≤ (xs.length : Int) by omega)]; rfl
  rw [if_neg h2, decide_eq_true (show n ≤ (xs.length : Int) by omega)]
  have ew : wrap64 (n - 1) = n - 1 := by unfold wrap64; omega
  rw [ew, if_pos (by omega), if_pos (by omega)]
  simp
theorem ref_id {n : Int} {r r1 : Rd} {xs : List Bool} (h1 : rdNum (lst s) r = (n, r1)) (e1 : r1.e = 0) : dId xs (lst s) r = if (decide (1 ≤ n) && decide (n ≤ xs.length) && !rdOf false xs (n - 1)) = true then .inl (n - 1, r1) else .inr (70, r1.a) := by
  unfold dId
  rw [bind_inl (dNum_yes h1 e1)]
  unfold Dc.bind Dc.need Dc.now
  by_cases h : (decide (1 ≤ n) && decide (n ≤ xs.length) && !rdOf false xs (n - 1)) = true
  · rw [if_pos h, if_pos h]
  · rw [if_neg h, if_neg h]
theorem ref_id_no {n : Int} {r r1 : Rd} {xs : List Bool} (h1 : rdNum (lst s) r = (n, r1)) (e1 : ¬ r1.e = 0) : dId xs (lst s) r = .inr (r1.e, r1.f) := by
  unfold dId
  rw [bind_inr (dNum_no h1 e1)]
theorem ref_strs (hs : s.size < 4611686018427387904) : ∀ (d i : Nat) (xs : List Bool) (ys : List ByteArray) (r : Rd), St (lst s) r → xs.length = i + d → ys.length = i + d → i + d ≤ 10000 →
    RefO [] s (fun k => shuttlecockref07_names.l0 k ((i + d : Nat) : Int) xs ys (i : Int) s r.a r.e r.f) (dStrs d xs ys (lst s) r)
  | 0, i, xs, ys, r, _, _, _, _ => Ev.step (fun k => shuttlecockref07_names.l0.eq_2 ..) (evNo (by omega) (Ev.now _))
  | d + 1, i, xs, ys, r, hr, hx, hy, hi => by
    obtain ⟨n, r1, h1⟩ : ∃ n r', rdNum (lst s) r = (n, r') := ⟨_, _, rfl⟩
    have n1 := refNum s r.a r.e r.f hs h1
    show RefO _ _ _ (Dc.bind (dId xs) (fun j => Dc.bind dText fun t => dStrs d (xs.set j.toNat true) (ys.set j.toNat t)) (lst s) r)
    by_cases e1 : r1.e = 0
    · have hid := ref_id (xs := xs) h1 e1
      have hf := ref_fresh n xs (by omega)
      cases hb : (decide (1 ≤ n) && decide (n ≤ xs.length) && !rdOf false xs (n - 1)) with
      | false =>
        rw [hb] at hid hf
        rw [if_neg Bool.false_ne_true] at hid
        rw [bind_inr hid]
        exact ⟨by decide, _, Ev.step (fun k => shuttlecockref07_names.l0.eq_2 ..) (evYes (by omega) (Ev.bind n1 (evYes e1 (Ev.bind (evC hf) (evNo Bool.false_ne_true (Ev.now _))))))⟩
      | true =>
        rw [hb] at hid hf
        rw [if_pos rfl] at hid
        have hin := id_in hid
        have s1 := ((Good.id xs).ok _ _ _ _ hr hid).1
        rw [bind_inl hid]
        have ew : wrap64 (n - 1) = n - 1 := by unfold wrap64; omega
        obtain ⟨t, r2, h2⟩ : ∃ n r', rdText (lst s) r1 = (n, r') := ⟨_, _, rfl⟩
        have n2 := refText s r1.a r1.e r1.f hs ⟨s1.lo, s1.hi⟩ (.inl s1.e) h2
        have go : ∀ v, Ev (fun k => if r2.e = 0 then shuttlecockref07_names.l0 k ((i + (d + 1) : Nat) : Int) (xs.set (n - 1).toNat true) (ys.set (n - 1).toNat (arr t)) (wrap64 ((i : Int) + 1)) s r2.a r2.e r2.f else some ([], r2.f, r2.e, s, r2.a, r2.e, r2.f)) v → Ev (fun k => shuttlecockref07_names.l0 k ((i + (d + 1) : Nat) : Int) xs ys (i : Int) s r.a r.e r.f) v := fun v hv => by
          refine Ev.step (fun k => shuttlecockref07_names.l0.eq_2 ..) (evYes (by omega) (Ev.bind n1 (evYes e1 (Ev.bind (evC hf) (evYes rfl ?_)))))
          rw [ew]
          exact evYes hin.1 (evYes hin.2 (Ev.bind n2 (evYes (by omega) hv)))
        by_cases e2 : r2.e = 0
        · rw [bind_inl (dText_yes h2 e2)]
          have ih := ref_strs hs d (i + 1) (xs.set (n - 1).toNat true) (ys.set (n - 1).toNat (arr t)) r2 (Good.txt.ok _ _ _ _ s1 (dText_yes h2 e2)).1 (by rw [List.length_set]; omega) (by rw [List.length_set]; omega) (by omega)
          have ew2 : wrap64 ((i : Int) + 1) = ((i + 1 : Nat) : Int) := by unfold wrap64; omega
          refine ih.imp fun v hv => go v (evYes e2 ?_)
          rw [ew2, show i + (d + 1) = i + 1 + d by omega]
          exact hv
        · rw [bind_inr (dText_no h2 e2)]
          exact ⟨e2, _, go _ (evNo e2 (Ev.now _))⟩
    · rw [bind_inr (ref_id_no h1 e1)]
      exact ⟨e1, _, Ev.step (fun k => shuttlecockref07_names.l0.eq_2 ..) (evYes (by omega) (Ev.bind n1 (evNo e1 (Ev.now _))))⟩
theorem ref_names (hs : s.size < 4611686018427387904) (hr : St (lst s) r) : RefO [] s (fun k => shuttlecockref07_names.f k s r.a r.e r.f) (dNames (lst s) r) := by
  obtain ⟨n, r1, h1⟩ : ∃ n r', rdNum (lst s) r = (n, r') := ⟨_, _, rfl⟩
  have n1 := refNum s r.a r.e r.f hs h1
  have hn := rdNum_nonneg (lst s) r
  rw [h1] at hn
  simp only at hn
  show RefO _ _ _ (Dc.bind (dMany 10000) (fun n => dStrs n.toNat (List.replicate n.toNat false) (List.replicate n.toNat ByteArray.empty)) (lst s) r)
  by_cases e1 : r1.e = 0
  · have hm := ref_many (m := 10000) h1 e1
    by_cases h2 : n ≤ 10000
    · rw [if_pos h2] at hm
      rw [bind_inl hm]
      have ih := ref_strs hs n.toNat 0 (List.replicate n.toNat false) (List.replicate n.toNat ByteArray.empty) r1 ((Good.many _).ok _ _ _ _ hr hm).1 (by simp) (by simp) (by omega)
      rw [Nat.zero_add, Int.toNat_of_nonneg hn.1] at ih
      exact ih.imp fun v hv => Ev.bind n1 (evYes e1 (evNo (show ¬ n > 10000 by omega) (evYes hn.1 (evYes (by show n.toNat ≤ _; omega) (evYes (by show n.toNat ≤ _; omega) hv)))))
    · rw [if_neg h2] at hm
      rw [bind_inr hm]
      exact ⟨by decide, _, Ev.bind n1 (evYes e1 (evYes (show n > 10000 by omega) (Ev.now _)))⟩
  · rw [bind_inr (ref_many_no (m := 10000) h1 e1)]
    exact ⟨e1, _, Ev.bind n1 (evNo e1 (Ev.now _))⟩
theorem ref_stks (hs : s.size < 4611686018427387904) : ∀ (d i : Nat) (xs : List Bool) (zs : List (List T2)) (r : Rd), St (lst s) r → xs.length = i + d → zs.length = i + d → i + d ≤ 10000 →
    RefO [] s (fun k => shuttlecockref07_stacks.l0 k ((i + d : Nat) : Int) xs zs (i : Int) s r.a r.e r.f) (dStks d xs zs (lst s) r)
  | 0, i, xs, zs, r, _, _, _, _ => Ev.step (fun k => shuttlecockref07_stacks.l0.eq_2 ..) (evNo (by omega) (Ev.now _))
  | d + 1, i, xs, zs, r, hr, hx, hy, hi => by
    obtain ⟨n, r1, h1⟩ : ∃ n r', rdNum (lst s) r = (n, r') := ⟨_, _, rfl⟩
    have n1 := refNum s r.a r.e r.f hs h1
    show RefO _ _ _ (Dc.bind (dId xs) (fun j => Dc.bind dStack fun t => dStks d (xs.set j.toNat true) (zs.set j.toNat t)) (lst s) r)
    by_cases e1 : r1.e = 0
    · have hid := ref_id (xs := xs) h1 e1
      have hf := ref_fresh n xs (by omega)
      cases hb : (decide (1 ≤ n) && decide (n ≤ xs.length) && !rdOf false xs (n - 1)) with
      | false =>
        rw [hb] at hid hf
        rw [if_neg Bool.false_ne_true] at hid
        rw [bind_inr hid]
        exact ⟨by decide, _, Ev.step (fun k => shuttlecockref07_stacks.l0.eq_2 ..) (evYes (by omega) (Ev.bind n1 (evYes e1 (Ev.bind (evC hf) (evNo Bool.false_ne_true (Ev.now _))))))⟩
      | true =>
        rw [hb] at hid hf
        rw [if_pos rfl] at hid
        have hin := id_in hid
        have s1 := ((Good.id xs).ok _ _ _ _ hr hid).1
        rw [bind_inl hid]
        have ew : wrap64 (n - 1) = n - 1 := by unfold wrap64; omega
        have n2 := ref_stack hs r1
        cases h2 : dStack (lst s) r1 with
        | inl q =>
          obtain ⟨t, r2⟩ := q
          rw [h2] at n2
          rw [bind_inl h2]
          have ih := ref_stks hs d (i + 1) (xs.set (n - 1).toNat true) (zs.set (n - 1).toNat t) r2 (Good.stack.ok _ _ _ _ s1 h2).1 (by rw [List.length_set]; omega) (by rw [List.length_set]; omega) (by omega)
          have ew2 : wrap64 ((i : Int) + 1) = ((i + 1 : Nat) : Int) := by unfold wrap64; omega
          refine ih.imp fun v hv => Ev.step (fun k => shuttlecockref07_stacks.l0.eq_2 ..) (evYes (by omega) (Ev.bind n1 (evYes e1 (Ev.bind (evC hf) (evYes rfl ?_)))))
          rw [ew]
          refine evYes hin.1 (evYes hin.2 (Ev.bind n2 (evYes rfl (evYes (by omega) ?_))))
          rw [ew2, show i + (d + 1) = i + 1 + d by omega]
          exact hv
        | inr q =>
          obtain ⟨x, y⟩ := q
          rw [h2] at n2
          rw [bind_inr h2]
          obtain ⟨hx0, q, hq⟩ := n2
          refine ⟨hx0, q, Ev.step (fun k => shuttlecockref07_stacks.l0.eq_2 ..) (evYes (by omega) (Ev.bind n1 (evYes e1 (Ev.bind (evC hf) (evYes rfl ?_)))))⟩
          rw [ew]
          exact evYes hin.1 (evYes hin.2 (Ev.bind hq (evNo hx0 (Ev.now _))))
    · rw [bind_inr (ref_id_no h1 e1)]
      exact ⟨e1, _, Ev.step (fun k => shuttlecockref07_stacks.l0.eq_2 ..) (evYes (by omega) (Ev.bind n1 (evNo e1 (Ev.now _))))⟩
theorem ref_stacks (hs : s.size < 4611686018427387904) (hr : St (lst s) r) : RefO [] s (fun k => shuttlecockref07_stacks.f k s r.a r.e r.f) (dStacks (lst s) r) := by
  obtain ⟨n, r1, h1⟩ : ∃ n r', rdNum (lst s) r = (n, r') := ⟨_, _, rfl⟩
  have n1 := refNum s r.a r.e r.f hs h1
  have hn := rdNum_nonneg (lst s) r
  rw [h1] at hn
  simp only at hn
  show RefO _ _ _ (Dc.bind (dMany 10000) (fun n => dStks n.toNat (List.replicate n.toNat false) (List.replicate n.toNat [])) (lst s) r)
  by_cases e1 : r1.e = 0
  · have hm := ref_many (m := 10000) h1 e1
    by_cases h2 : n ≤ 10000
    · rw [if_pos h2] at hm
      rw [bind_inl hm]
      have ih := ref_stks hs n.toNat 0 (List.replicate n.toNat false) (List.replicate n.toNat []) r1 ((Good.many _).ok _ _ _ _ hr hm).1 (by simp) (by simp) (by omega)
      rw [Nat.zero_add, Int.toNat_of_nonneg hn.1] at ih
      exact ih.imp fun v hv => Ev.bind n1 (evYes e1 (evNo (show ¬ n > 10000 by omega) (evYes hn.1 (evYes (by show n.toNat ≤ _; omega) (evYes (by show n.toNat ≤ _; omega) hv)))))
    · rw [if_neg h2] at hm
      rw [bind_inr hm]
      exact ⟨by decide, _, Ev.bind n1 (evYes e1 (evYes (show n > 10000 by omega) (Ev.now _)))⟩
  · rw [bind_inr (ref_many_no (m := 10000) h1 e1)]
    exact ⟨e1, _, Ev.bind n1 (evNo e1 (Ev.now _))⟩
theorem dFrs_len : ∀ (d : Nat) (l : List T2) (s : List UInt8) (r : Rd) (t : List T2) (r' : Rd), dFrs d l s r = .inl (t, r') → t.length = l.length + d
  | 0, l, s, r, t, r', h => by cases h; rfl
  | d + 1, l, s, r, t, r', h => by
    rcases bind_out h with ⟨a, r1, _, h⟩ | ⟨y, _, h⟩
    · rcases bind_out h with ⟨b, r2, _, h⟩ | ⟨y, _, h⟩
      · have := dFrs_len d _ s r2 t r' h
        rw [List.length_append, List.length_singleton] at this
        omega
      · cases h
    · cases h
theorem dStack_len {s : List UInt8} {r r' : Rd} {t : List T2} (h : dStack s r = .inl (t, r')) : t.length ≤ 100 := by
  rcases bind_out h with ⟨n, r1, h1, h⟩ | ⟨y, _, h⟩
  · have := dFrs_len _ _ _ _ _ _ h
    have := many_in h1
    simp only [List.length_nil] at *
    omega
  · cases h
theorem dStks_len : ∀ (d : Nat) (xs : List Bool) (zs : List (List T2)) (s : List UInt8) (r : Rd) (t : List (List T2)) (r' : Rd), (∀ l ∈ zs, l.length ≤ 100) → dStks d xs zs s r = .inl (t, r') → ∀ l ∈ t, l.length ≤ 100
  | 0, xs, zs, s, r, t, r', hz, h => by cases h; exact hz
  | d + 1, xs, zs, s, r, t, r', hz, h => by
    rcases bind_out h with ⟨j, r1, _, h⟩ | ⟨y, _, h⟩
    · rcases bind_out h with ⟨b, r2, h2, h⟩ | ⟨y, _, h⟩
      · refine dStks_len d _ _ s r2 t r' (fun l hl => ?_) h
        rcases List.mem_or_eq_of_mem_set hl with h3 | h3
        · exact hz l h3
        · rw [h3]; exact dStack_len h2
      · cases h
    · cases h
theorem dStacks_len {s : List UInt8} {r r' : Rd} {t : List (List T2)} (h : dStacks s r = .inl (t, r')) : ∀ l ∈ t, l.length ≤ 100 := by
  rcases bind_out h with ⟨n, r1, h1, h⟩ | ⟨y, _, h⟩
  · refine dStks_len _ _ _ _ _ _ _ (fun l hl => ?_) h
    rw [List.eq_of_mem_replicate hl]
    exact Nat.zero_le _
  · cases h
theorem shuttlecockref07_Decode.ev (s : ByteArray) (hs : s.size < 4611686018427387904) : Ev (fun k => shuttlecockref07_Decode.f k s) (decT (lst s)) := by
  have z := St.zero (lst s)
  have n1 := ref_names hs z
  cases h1 : dNames (lst s) ⟨0, 0, 0⟩ with
  | inr y =>
    obtain ⟨x, y⟩ := y
    rw [h1] at n1
    obtain ⟨hx, q, hq⟩ := n1
    rw [decT_inr (bind_inr h1)]
    exact Ev.bind hq (evNo hx (Ev.now _))
  | inl q =>
    obtain ⟨ys, r1⟩ := q
    rw [h1] at n1
    have s1 := (Good.names.ok _ _ _ _ z h1).1
    have n2 := ref_stacks hs s1
    cases h2 : dStacks (lst s) r1 with
    | inr y =>
      obtain ⟨x, y⟩ := y
      rw [h2] at n2
      obtain ⟨hx, q, hq⟩ := n2
      rw [decT_inr ((bind_inl h1).trans (bind_inr h2))]
      exact Ev.bind n1 (evYes rfl (Ev.bind hq (evNo hx (Ev.now _))))
    | inl q =>
      obtain ⟨zs, r2⟩ := q
      rw [h2] at n2
      have s2 := (Good.stacks.ok _ _ _ _ s1 h2).1
      rw [decT_inl ((bind_inl h1).trans (bind_inl h2)), lst_length]
      have hhi := s2.hi
      rw [lst_length] at hhi
      refine Ev.bind n1 (evYes rfl (Ev.bind n2 (evYes rfl ?_)))
      by_cases ha : r2.a = (s.size : Int)
      · refine evNo (show ¬ r2.a < (s.size : Int) by omega) (Ev.bind (shuttlecockref06_May.ev ys zs (fun l hl => by have := dStacks_len h2 l hl; omega)) ?_)
        by_cases hm : mayC ys zs = true
        · have e : (if r2.a = (s.size : Int) ∧ mayC ys zs = true then (ys, zs, (s.size : Int), (0 : Int)) else ([], [], (s.size : Int), 70)) = (ys, zs, (s.size : Int), (0 : Int)) := if_pos ⟨ha, hm⟩
          rw [e]; exact evYes hm (Ev.now _)
        · have e : (if r2.a = (s.size : Int) ∧ mayC ys zs = true then (ys, zs, (s.size : Int), (0 : Int)) else ([], [], (s.size : Int), 70)) = ([], [], (s.size : Int), 70) := if_neg (fun e => hm e.2)
          rw [e]; exact evNo hm (Ev.now _)
      · have e : (if r2.a = (s.size : Int) ∧ mayC ys zs = true then (ys, zs, (s.size : Int), (0 : Int)) else ([], [], (s.size : Int), 70)) = ([], [], (s.size : Int), 70) := if_neg (fun e => ha e.1)
        rw [e]
        exact evYes (show r2.a < (s.size : Int) by omega) (Ev.now _)
end Go.Proofs.Ytlmmlmmbnfcogaa.Q

/- What the document's functions that write tables come to. For every table. -/
namespace Go.Proofs.Ytlmmlmmbnfcogaa.Q
open Go Go.RowKit Go.Proofs.YtlmmlmmbnfcogaaW.PrintWords Go.Proofs.YtlmmlmmbnfcogaaW.PrintLast Go.Proofs.YtlmmlmmbnfcogaaW.PrintMore ShCore
theorem rd_mid (pre : List Int) (a : Int) (r : List Int) : rd (pre ++ a :: r) (pre.length : Int) = a := by
  unfold rd
  rw [Int.toNat_natCast]
  exact getD_mid ..
theorem ref_each1 (n : Nat) (l : List Int) (hl : l.length < 4611686018427387904) (b : Bool) (pre : List Int) (i : Int) (r : List Int) (hL : l = pre ++ i :: r)
    (hb : Ev (fun k => shuttlecockref07_each.l0 k l (n : Int) (wrap64 ((pre.length : Int) + 1))) b) : ∀ (rest done : List Int), done ++ rest = pre → Ev (fun k => shuttlecockref07_each.l1 k l (n : Int) (pre.length : Int) (done.length : Int)) (!decide (i ∈ rest) && b)
  | [], done, e => by
    rw [List.append_nil] at e
    subst e
    refine Ev.step (fun k => shuttlecockref07_each.l1.eq_2 ..) (evNo (by omega) ?_)
    simpa using hb
  | j :: rest, done, e => by
    have h1 : (done.length : Int) < (pre.length : Int) := by rw [← e]; exact lt_mid done j rest
    have h2 : (pre.length : Int) < (l.length : Int) := by rw [hL]; exact lt_mid pre i r
    have ej : rd l (done.length : Int) = j := by
      rw [hL, ← e, List.append_assoc]
      exact rd_mid done j _
    have ei : rd l (pre.length : Int) = i := by rw [hL]; exact rd_mid pre i r
    refine Ev.step (fun k => shuttlecockref07_each.l1.eq_2 ..) (evYes h1 (evYes (by omega) (evYes (by omega) (evYes (by omega) (evYes h2 ?_)))))
    rw [ej, ei]
    by_cases c : j = i
    · rw [decide_eq_true (show i ∈ j :: rest by rw [c]; simp)]
      exact evYes c (Ev.now _)
    · refine evNo c ?_
      have ih := ref_each1 n l hl b pre i r hL hb rest (done ++ [j]) (by rw [← mid_snoc]; exact e)
      rw [w_snoc done j (by omega)]
      have e2 : decide (i ∈ j :: rest) = decide (i ∈ rest) := by
        rw [decide_eq_decide, List.mem_cons]
        exact ⟨fun h => h.elim (fun h => absurd h.symm c) id, .inr⟩
      rw [e2]
      exact ih
theorem ref_each0 (n : Nat) (l : List Int) (hl : l.length < 4611686018427387904) : ∀ (rest pre : List Int), pre ++ rest = l → Ev (fun k => shuttlecockref07_each.l0 k l (n : Int) (pre.length : Int)) (eachR n pre.reverse rest && decide (l.length = n))
  | [], pre, e => by
    subst e
    refine Ev.step (fun k => shuttlecockref07_each.l0.eq_2 ..) (evNo (nlt_end pre) ?_)
    have e : (((pre ++ []).length : Int) == (n : Int)) = (eachR n pre.reverse [] && decide ((pre ++ []).length = n)) := by
      unfold eachR
      rw [Bool.true_and, Bool.eq_iff_iff, beq_iff_eq, decide_eq_true_eq]
      omega
    rw [← e]
    exact Ev.now _
  | i :: r, pre, e => by
    have hlt : (pre.length : Int) < (l.length : Int) := by rw [← e]; exact lt_mid pre i r
    have ei : rd l (pre.length : Int) = i := by rw [← e]; exact rd_mid pre i r
    refine Ev.step (fun k => shuttlecockref07_each.l0.eq_2 ..) (evYes hlt (evYes (by omega) ?_))
    rw [ei]
    unfold eachR
    have out : Ev (fun k => shuttlecockref07_each.j1 k l (n : Int) (pre.length : Int) true) false := Ev.step (fun k => shuttlecockref07_each.j1.eq_2 ..) (evYes rfl (Ev.now _))
    by_cases h1 : i < 1
    · rw [decide_eq_false (show ¬ 1 ≤ i by omega)]
      exact evYes h1 out
    rw [decide_eq_true (show 1 ≤ i by omega)]
    refine evNo h1 ?_
    by_cases h2 : i > (n : Int)
    · rw [decide_eq_true h2, decide_eq_false (show ¬ i ≤ (n : Int) by omega)]
      exact out
    rw [decide_eq_false h2, decide_eq_true (show i ≤ (n : Int) by omega)]
    have ih := ref_each0 n l hl r (pre ++ [i]) (by rw [← mid_snoc]; exact e)
    rw [show (pre ++ [i]).reverse = i :: pre.reverse by simp] at ih
    have hb := ref_each1 n l hl _ pre i r e.symm (by rw [w_snoc pre i (by omega)]; exact ih) pre [] rfl
    refine Ev.step (fun k => shuttlecockref07_each.j1.eq_2 ..) (evNo Bool.false_ne_true ?_)
    have em : decide (i ∈ pre.reverse) = decide (i ∈ pre) := by rw [decide_eq_decide, List.mem_reverse]
    rw [em]
    simpa [Bool.and_assoc] using hb
theorem shuttlecockref07_each.ev (l : List Int) (n : Nat) (hl : l.length < 4611686018427387904) : Ev (fun k => shuttlecockref07_each.f k l (n : Int)) (eachC l n) := ref_each0 n l hl l [] rfl
theorem ref_ris : ∀ (d i : Nat) (acc : List Int), acc.length ≤ i → i + d ≤ 1000000 → Ev (fun k => shuttlecockref07_Rising.l0 k ((i + d : Nat) : Int) acc ((i + 1 : Nat) : Int)) (acc ++ risF d i)
  | 0, i, acc, _, _ => by
    refine Ev.step (fun k => shuttlecockref07_Rising.l0.eq_2 ..) (evNo (by omega) ?_)
    rw [show risF 0 i = [] from rfl, List.append_nil]
    exact Ev.now _
  | d + 1, i, acc, ha, hi => by
    refine Ev.step (fun k => shuttlecockref07_Rising.l0.eq_2 ..) (evYes (by omega) (evYes (by omega) ?_))
    have e1 : wrap64 (((i + 1 : Nat) : Int) + 1) = ((i + 1 + 1 : Nat) : Int) := by unfold wrap64; omega
    have ih := ref_ris d (i + 1) (acc ++ [((i + 1 : Nat) : Int)]) (by rw [List.length_append, List.length_singleton]; omega) (by omega)
    rw [e1, show i + (d + 1) = i + 1 + d by omega]
    rw [List.append_assoc] at ih
    exact ih
theorem shuttlecockref07_Rising.ev (n : Nat) (hn : n ≤ 1000000) : Ev (fun k => shuttlecockref07_Rising.f k (n : Int)) (risF n 0) := by
  have h := ref_ris n 0 [] (by simp) (by omega)
  rw [Nat.zero_add] at h
  exact h
/-! #### what is written -/
theorem rnums1 {a : Int} (h : put a ≠ []) : numsL [a] = put a := by
  rcases numsL_cases [a] with ⟨⟨n, hn, e⟩, _⟩ | ⟨_, e⟩
  · rw [List.mem_singleton] at hn
    rw [hn] at e
    exact absurd e h
  · rw [e]; simp
theorem rnums2 {a b : Int} (h : put a ≠ []) (k : put b ≠ []) : numsL [a, b] = put a ++ put b := by
  rcases numsL_cases [a, b] with ⟨⟨n, hn, e⟩, _⟩ | ⟨_, e⟩
  · rcases List.mem_cons.1 hn with e2 | hn
    · rw [e2] at e; exact absurd e h
    · rw [List.mem_singleton] at hn
      rw [hn] at e
      exact absurd e k
  · rw [e]; simp
theorem app_arr (acc : ByteArray) (a b : List UInt8) : acc ++ arr a ++ arr b = acc ++ arr (a ++ b) := by rw [ByteArray.append_assoc, arr_append]
theorem app_nil (acc : ByteArray) : acc ++ arr [] = acc := lst_inj (by rw [lst_append]; exact List.append_nil _)
theorem size_app (acc : ByteArray) (a : List UInt8) : (acc ++ arr a).size = acc.size + a.length := by rw [ByteArray.size_append, size_arr]
set_option linter.unusedSectionVars false
section
variable {ss : List ByteArray} {zs : List (List T2)} (hm : MayP ss zs)
include hm
theorem rstk_at {i : Int} (h : 1 ≤ i ∧ i ≤ (zs.length : Int)) : framesB (zs.getD (i - 1).toNat []) ss.length = true := by
  have hlt : (i - 1).toNat < zs.length := by omega
  rw [List.getD_eq_getElem?_getD, List.getElem?_eq_getElem hlt, Option.getD_some]
  exact hm.2.2.2.2.1 _ (List.getElem_mem _)
theorem ref_ord2 (l2 : List Int) (x : Int) (v : ByteArray) (l : List T2) (hl : l.length ≤ 100) : ∀ (rest pre : List T2) (acc : ByteArray), pre ++ rest = l → (∀ y ∈ rest, fine y) → acc.size + 18 * rest.length ≤ 1000000000000 →
    Ev (fun k => shuttlecockref07_Order.l1 k l2 (acc ++ arr (rest.flatMap frmB)) (wrap64 (x + 1)) ss zs) v → Ev (fun k => shuttlecockref07_Order.l2 k l2 acc x l (pre.length : Int) ss zs) v
  | [], pre, acc, e, _, _, h => by
    subst e
    refine Ev.step (fun k => shuttlecockref07_Order.l2.eq_2 ..) (evNo (nlt_end pre) ?_)
    rwa [show ([] : List T2).flatMap frmB = [] from rfl, app_nil] at h
  | y :: rest, pre, acc, e, hf, hs, h => by
    simp only [List.length_cons] at hs
    have hy := hf y (by simp)
    have ey : rd_T70 l (pre.length : Int) = y := by rw [← e]; exact rd2_mid pre y rest
    have hlt : (pre.length : Int) < (l.length : Int) := by rw [← e]; exact lt_mid pre y rest
    refine Ev.step (fun k => shuttlecockref07_Order.l2.eq_2 ..) (evYes hlt (evYes (by omega) ?_))
    rw [ey]
    have p0 := put_len y.f0
    have p1 := put_len y.f1
    have en := rnums2 (put_id hy.1.1 hy.1.2) (put_id hy.2.1 hy.2.2)
    have hn := rNums [y.f0, y.f1] (by simp)
    rw [en] at hn
    refine Ev.bind hn (evYes (by rw [size_arr, List.length_append]; omega) ?_)
    have ih := ref_ord2 l2 x v l hl rest (pre ++ [y]) (acc ++ arr (put y.f0 ++ put y.f1)) (by rw [← mid_snoc]; exact e) (fun z hz => hf z (by simp [hz])) (by rw [size_app, List.length_append]; omega)
      (by rw [app_arr]; exact h)
    rw [w_snoc pre y (by omega)]
    exact ih
theorem ref_ord1 (l2 : List Int) (h2 : ∀ i ∈ l2, 1 ≤ i ∧ i ≤ (zs.length : Int)) (hl2 : l2.length ≤ 10000) : ∀ (rest pre : List Int) (acc : ByteArray), pre ++ rest = l2 → acc.size + 2000 * rest.length ≤ 100000000000 →
    Ev (fun k => shuttlecockref07_Order.l1 k l2 acc (pre.length : Int) ss zs) (acc ++ arr (rest.flatMap (stkB zs)))
  | [], pre, acc, e, _ => by
    subst e
    refine Ev.step (fun k => shuttlecockref07_Order.l1.eq_2 ..) (evNo (nlt_end pre) ?_)
    rw [show ([] : List Int).flatMap (stkB zs) = [] from rfl, app_nil]
    exact Ev.now _
  | i :: rest, pre, acc, e, hs => by
    have hz := hm.2.1
    have hd := hm.1
    simp only [List.length_cons] at hs
    have hi := h2 i (by rw [← e]; simp)
    have ei : rd l2 (pre.length : Int) = i := by rw [← e]; exact rd_mid pre i rest
    have hlt : (pre.length : Int) < (l2.length : Int) := by rw [← e]; exact lt_mid pre i rest
    have ew : wrap64 (i - 1) = i - 1 := by unfold wrap64; omega
    refine Ev.step (fun k => shuttlecockref07_Order.l1.eq_2 ..) (evYes hlt (evYes (by omega) ?_))
    rw [ei, ew]
    refine evYes (by omega) (evYes (by omega) ?_)
    have hf := rstk_at hm hi
    have el : rd_L2 zs (i - 1) = zs.getD (i - 1).toNat [] := rfl
    have eb : stkB zs i = put i ++ put ((zs.getD (i - 1).toNat []).length : Int) ++ (zs.getD (i - 1).toNat []).flatMap frmB := by unfold stkB; rw [List.append_assoc]
    have eB : (i :: rest).flatMap (stkB zs) = stkB zs i ++ rest.flatMap (stkB zs) := rfl
    rw [el, eB, eb]
    generalize zs.getD (i - 1).toNat [] = l at hf
    have h1 := ((framesB_iff _ _).1 hf).1
    have hfine := fine_of hf (by omega)
    have p0 := put_len i
    have p1 := put_len (l.length : Int)
    have hn := rNums [i, (l.length : Int)] (by simp)
    rw [rnums2 (put_id (by omega) (by omega)) (put_id (by omega) (by omega))] at hn
    refine Ev.bind hn (evYes (by rw [size_arr, List.length_append]; omega) ?_)
    have hfl : (l.flatMap frmB).length ≤ 18 * l.length := by
      have := off_len frmB l 18 (fun x _ => by have := put_len x.f0; have := put_len x.f1; unfold frmB; rw [List.length_append]; omega) l.length
      rwa [off_all] at this
    have ih := ref_ord1 l2 h2 hl2 rest (pre ++ [i]) (acc ++ arr (put i ++ put (l.length : Int)) ++ arr (l.flatMap frmB)) (by rw [← mid_snoc]; exact e) (by rw [size_app, size_app, List.length_append]; omega)
    refine ref_ord2 hm l2 (pre.length : Int) _ l h1.2 l [] _ rfl hfine (by rw [size_app, List.length_append]; omega) ?_
    rw [w_snoc pre i (by omega)]
    have e3 : acc ++ arr (put i ++ put (l.length : Int) ++ l.flatMap frmB ++ rest.flatMap (stkB zs)) = acc ++ arr (put i ++ put (l.length : Int)) ++ arr (l.flatMap frmB) ++ arr (rest.flatMap (stkB zs)) := by rw [app_arr, app_arr]; simp only [List.append_assoc]
    rw [e3]
    exact ih
theorem ref_ord0 (l1 l2 : List Int) (h1 : ∀ i ∈ l1, 1 ≤ i ∧ i ≤ (ss.length : Int)) (hl1 : l1.length ≤ 10000) (h2 : ∀ i ∈ l2, 1 ≤ i ∧ i ≤ (zs.length : Int)) (hl2 : l2.length ≤ 10000) : ∀ (rest pre : List Int) (acc : ByteArray), pre ++ rest = l1 → acc.size + 2000 * rest.length ≤ 1000000000 →
    Ev (fun k => shuttlecockref07_Order.l0 k l1 l2 acc (pre.length : Int) ss zs) (acc ++ arr (rest.flatMap (nameB ss) ++ (put (l2.length : Int) ++ l2.flatMap (stkB zs))))
  | [], pre, acc, e, hs => by
    subst e
    refine Ev.step (fun k => shuttlecockref07_Order.l0.eq_2 ..) (evNo (nlt_end pre) ?_)
    have p0 := put_len (l2.length : Int)
    have hn := rNums [(l2.length : Int)] (by simp)
    rw [rnums1 (put_id (by omega) (by omega))] at hn
    simp only [List.length_nil] at hs
    refine Ev.bind hn (evYes (by rw [size_arr]; omega) ?_)
    have h := ref_ord1 hm l2 h2 hl2 l2 [] (acc ++ arr (put (l2.length : Int))) rfl (by rw [size_app]; omega)
    rw [show ([] : List Int).flatMap (nameB ss) = [] from rfl, List.nil_append, ← app_arr]
    exact h
  | i :: rest, pre, acc, e, hs => by
    have hd := hm.1
    simp only [List.length_cons] at hs
    have hi := h1 i (by rw [← e]; simp)
    have ei : rd l1 (pre.length : Int) = i := by rw [← e]; exact rd_mid pre i rest
    have hlt : (pre.length : Int) < (l1.length : Int) := by rw [← e]; exact lt_mid pre i rest
    have ew : wrap64 (i - 1) = i - 1 := by unfold wrap64; omega
    have hlt2 : (i - 1).toNat < ss.length := by omega
    have hsz : (ss.getD (i - 1).toNat ByteArray.empty).size ≤ 1000 := by
      rw [List.getD_eq_getElem?_getD, List.getElem?_eq_getElem hlt2, Option.getD_some]
      exact (hm.2.2.1 _ (List.getElem_mem _)).2
    have et : rdOf ByteArray.empty ss (i - 1) = ss.getD (i - 1).toNat ByteArray.empty := rfl
    refine Ev.step (fun k => shuttlecockref07_Order.l0.eq_2 ..) (evYes hlt (evYes (by omega) ?_))
    rw [ei, ew, et]
    have p0 := put_len i
    have p1 := text_len (lst (ss.getD (i - 1).toNat ByteArray.empty))
    rw [lst_length] at p1
    have hn := rNums [i] (by simp)
    rw [rnums1 (put_id (by omega) (by omega))] at hn
    refine Ev.bind hn (evYes (by omega) (evYes (by omega) (Ev.bind (rText _ (by omega)) (evYes (by rw [size_arr, size_arr]; omega) (evYes (by rw [arr_append, size_arr, List.length_append]; omega) ?_)))))
    have ih := ref_ord0 l1 l2 h1 hl1 h2 hl2 rest (pre ++ [i]) (acc ++ arr (put i ++ text (lst (ss.getD (i - 1).toNat ByteArray.empty)))) (by rw [← mid_snoc]; exact e) (by rw [size_app, List.length_append]; omega)
    rw [w_snoc pre i (by omega), arr_append]
    have e3 : acc ++ arr ((i :: rest).flatMap (nameB ss) ++ (put (l2.length : Int) ++ l2.flatMap (stkB zs))) = acc ++ arr (put i ++ text (lst (ss.getD (i - 1).toNat ByteArray.empty))) ++ arr (rest.flatMap (nameB ss) ++ (put (l2.length : Int) ++ l2.flatMap (stkB zs))) := by
      rw [app_arr, List.flatMap_cons, List.append_assoc]
      rfl
    rw [e3]
    exact ih
end
theorem shuttlecockref07_Order.ev (ss : List ByteArray) (zs : List (List T2)) (l1 l2 : List Int) (hl1 : l1.length < 4611686018427387904) (hl2 : l2.length < 4611686018427387904) (hz : ∀ l ∈ zs, l.length < 4611686018427387904) : Ev (fun k => shuttlecockref07_Order.f k ss zs l1 l2) (ordB ss zs l1 l2) := by
  have out : Ev (fun k => shuttlecockref07_Order.j0 k l1 l2 true ss zs) (⟨#[]⟩ : ByteArray) := Ev.step (fun k => shuttlecockref07_Order.j0.eq_2 ..) (evYes rfl (Ev.now _))
  refine Ev.bind (shuttlecockref06_May.ev ss zs hz) ?_
  by_cases hm : mayC ss zs = true
  · have hp := (mayC_iff ss zs).1 hm
    refine evYes hm (Ev.bind (shuttlecockref07_each.ev l1 ss.length hl1) ?_)
    by_cases h1 : eachC l1 ss.length = true
    · refine evYes h1 (Ev.bind (shuttlecockref07_each.ev l2 zs.length hl2) ?_)
      by_cases h2 : eachC l2 zs.length = true
      · have q1 := (eachC_iff l1 _).1 h1
        have q2 := (eachC_iff l2 _).1 h2
        have a1 := hp.1
        have a2 := hp.2.1
        have a3 := q1.1
        have a4 := q2.1
        rw [h2, ordB_yes hp q1 q2]
        have hn := rNums [(l1.length : Int)] (by simp)
        rw [rnums1 (put_id (by omega) (by omega))] at hn
        have p0 := put_len (l1.length : Int)
        refine Ev.step (fun k => shuttlecockref07_Order.j0.eq_2 ..) (evNo (by simp) (Ev.bind hn ?_))
        have h := ref_ord0 hp l1 l2 q1.2.1 (by omega) q2.2.1 (by omega) l1 [] (arr (put (l1.length : Int))) rfl (by rw [size_arr]; omega)
        rw [arr_append] at h
        have e : ordL ss zs l1 l2 = put (l1.length : Int) ++ (l1.flatMap (nameB ss) ++ (put (l2.length : Int) ++ l2.flatMap (stkB zs))) := by unfold ordL; rw [List.append_assoc]
        rw [e]
        exact h
      · rw [ordB_no (fun h => h2 ((eachC_iff l2 _).2 h.2.2)), Bool.not_eq_true _ |>.mp h2]
        exact out
    · rw [ordB_no (fun h => h1 ((eachC_iff l1 _).2 h.2.1))]
      exact evNo h1 out
  · rw [ordB_no (fun h => hm ((mayC_iff ss zs).2 h.1))]
    exact evNo hm out
theorem shuttlecockref07_Encode.ev (ss : List ByteArray) (zs : List (List T2)) (h1 : ss.length ≤ 1000000) (h2 : zs.length ≤ 1000000) (hz : ∀ l ∈ zs, l.length < 4611686018427387904) : Ev (fun k => shuttlecockref07_Encode.f k ss zs) (encB ss zs) := by
  refine Ev.bind (shuttlecockref07_Rising.ev ss.length h1) (Ev.bind (shuttlecockref07_Rising.ev zs.length h2) (Ev.bind (shuttlecockref07_Order.ev ss zs _ _ (by rw [risF_len]; omega) (by rw [risF_len]; omega) hz) ?_))
  exact Ev.now _
end Go.Proofs.Ytlmmlmmbnfcogaa.Q
