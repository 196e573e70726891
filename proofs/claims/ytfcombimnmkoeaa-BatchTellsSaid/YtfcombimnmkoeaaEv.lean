/- Several texts of this seat, one behind the other (merged by a program of this session: merge.py). -/
import Derived.Test.YtfcombimnmkoeaaVw
import Derived.Test.YtfcombimnmkoeaaQx5
import Derived.Test.YtfcombimnmkoeaaQx2
import Derived.Test.YtfcombimnmkoeaaQx7
import Derived.Test.YtfcombimnmkoeaaQx10
import Derived.Test.YtfcombimnmkoeaaQx3
import Derived.Test.YtfcombimnmkoeaaQx6
import Derived.Test.YtfcombimnmkoeaaQx0
import Derived.Test.YtfcombimnmkoeaaKind
import Derived.Test.YtfcombimnmkoeaaQx4
import Derived.Test.YtfcombimnmkoeaaQx14
import Derived.Test.YtfcombimnmkoeaaQx13
import Derived.Test.YtfcombimnmkoeaaQx8
import Derived.Test.YtfcombimnmkoeaaQx11
import Derived.Test.YtfcombimnmkoeaaQx9
import Derived.Test.YtfcombimnmkoeaaQx12
import Derived.Test.YtfcombimnmkoeaaQx15
/- Numbers of variable length as plain lists of bytes: what is put, what is taken, and that each undoes the other. No condition: plain lists and numbers alone, no program in sight. -/
namespace ShCore
open Go Go.RowKit Go.Proofs.YtfcombimnmkoeaaW.PrintWords Go.Proofs.YtfcombimnmkoeaaW.PrintMore

theorem evYes {α : Type} {c : Prop} [Decidable c] {g f : Nat → Option α} {r : α} (h : c) (k : Ev g r) : Ev (fun n => if c then g n else f n) r := by simpa only [if_pos h] using k
theorem evNo {α : Type} {c : Prop} [Decidable c] {g f : Nat → Option α} {r : α} (h : ¬ c) (k : Ev f r) : Ev (fun n => if c then g n else f n) r := by simpa only [if_neg h] using k
theorem evC {α : Type} {x : Option α} {a : α} (h : x = some a) : Ev (fun _ => x) a := ⟨0, fun _ _ => h⟩

/-! ### bytes -/
abbrev lst (s : ByteArray) : List UInt8 := s.data.toList
def arr (l : List UInt8) : ByteArray := ⟨l.toArray⟩
@[simp] theorem lst_arr (l : List UInt8) : lst (arr l) = l := by simp [lst, arr]
@[simp] theorem arr_lst (s : ByteArray) : arr (lst s) = s := by simp [lst, arr]
theorem lst_length (s : ByteArray) : (lst s).length = s.size := by rw [Array.length_toList]; rfl
theorem size_arr (l : List UInt8) : (arr l).size = l.length := by rw [← lst_length, lst_arr]
theorem lst_inj {a b : ByteArray} (h : lst a = lst b) : a = b := by rw [← arr_lst a, h, arr_lst]
theorem toList_lst (s : ByteArray) : s.toList = lst s := ByteArray.toList_eq s
theorem lst_append (a b : ByteArray) : lst (a ++ b) = lst a ++ lst b := ByteArray.toList_data_append
theorem arr_append (a b : List UInt8) : arr a ++ arr b = arr (a ++ b) := lst_inj (by rw [lst_append]; simp)
theorem lst_extract (s : ByteArray) (i j : Nat) : lst (s.extract i j) = ((lst s).drop i).take (j - i) := by
  simp [lst, ByteArray.data_extract, List.extract_eq_take_drop]
theorem drop_bt (s : ByteArray) (i : Nat) (h : i < s.size) : ∃ c : UInt8, (lst s).drop i = c :: (lst s).drop (i + 1) ∧ bt s i = c.toNat := by
  have h' : i < (lst s).length := by rw [lst_length]; exact h
  refine ⟨(lst s)[i], List.drop_eq_getElem_cons h', ?_⟩
  unfold bt
  rw [dif_pos (by simpa using h)]
  rfl
theorem u8_ofNat (n : Nat) (h : n < 256) : (UInt8.ofNat n).toNat = n := by simp; omega
theorem u8_lt (c : UInt8) : c.toNat < 256 := c.toNat_lt
theorem u8_ext {a b : UInt8} (h : a.toNat = b.toNat) : a = b := UInt8.toNat_inj.1 h

/-! ### what is put -/
def putF : Nat → Nat → List UInt8
  | 0, n => [UInt8.ofNat n]
  | f + 1, n => if n < 128 then [UInt8.ofNat n] else UInt8.ofNat (128 + n % 128) :: putF f (n / 128)
def put (n : Int) : List UInt8 := if n < 0 ∨ n ≥ 4611686018427387904 then [] else putF 8 n.toNat
/-- What is taken: the value, how many bytes, the error (10 too short, 11 too long). -/
def tk : Nat → Bool → List UInt8 → Nat × Nat × Nat
  | 0, _, _ => (0, 0, 11)
  | _ + 1, _, [] => (0, 0, 10)
  | m + 1, first, c :: l =>
    if 128 ≤ c.toNat then (if (tk m false l).2.2 = 0 then (c.toNat - 128 + 128 * (tk m false l).1, (tk m false l).2.1 + 1, 0) else (0, 0, (tk m false l).2.2))
    else if c.toNat = 0 ∧ first = false then (0, 0, 11) else (c.toNat, 1, 0)
/-- What is taken of a whole text at its begin: the value, how many bytes, the error. -/
def tkh (l : List UInt8) : Nat × Nat × Nat := if (tk 9 true l).2.2 = 0 then (if (tk 9 true l).1 ≥ 4611686018427387904 then (0, 0, 11) else tk 9 true l) else (0, 0, (tk 9 true l).2.2)
def takeL (l : List UInt8) (p : Int) : Int × Int × Int :=
  if p < 0 ∨ p > l.length then (0, 0, 1)
  else if (tkh (l.drop p.toNat)).2.2 = 0 then ((tkh (l.drop p.toNat)).1, p + (tkh (l.drop p.toNat)).2.1, 0) else (0, 0, (tkh (l.drop p.toNat)).2.2)

theorem putF_ne (f n : Nat) : putF f n ≠ [] := by cases f <;> simp [putF]; split <;> simp
theorem putF_len (f n : Nat) : 1 ≤ (putF f n).length ∧ (putF f n).length ≤ f + 1 := by
  induction f generalizing n with
  | zero => simp [putF]
  | succ f ih => simp only [putF]; split
                 · simp
                 · have := ih (n / 128); simp; omega
theorem tk_err (m : Nat) : ∀ (first : Bool) (l : List UInt8), (tk m first l).2.2 = 0 ∨ (tk m first l = (0, 0, 10)) ∨ tk m first l = (0, 0, 11) := by
  induction m with
  | zero => intro _ _; exact .inr (.inr rfl)
  | succ m ih =>
    intro first l
    cases l with
    | nil => exact .inr (.inl rfl)
    | cons c l =>
      simp only [tk]
      split
      · rcases ih false l with h | h | h
        · simp [h]
        · simp [h]
        · simp [h]
      · split
        · exact .inr (.inr rfl)
        · exact .inl rfl
/-- What was put is taken, whatever stands behind. -/
theorem tk_put (f : Nat) : ∀ (n : Nat) (first : Bool) (rest : List UInt8), n < 128 ^ (f + 1) → (n ≠ 0 ∨ first = true) → ∀ m, f < m → tk m first (putF f n ++ rest) = (n, (putF f n).length, 0) := by
  induction f with
  | zero =>
    intro n first rest hn hf m hm
    obtain ⟨m, rfl⟩ : ∃ q, m = q + 1 := ⟨m - 1, by omega⟩
    have h1 : n < 128 := by simpa using hn
    have h2 := u8_ofNat n (by omega)
    simp only [putF, List.cons_append, tk, h2]
    rw [if_neg (by omega), if_neg]
    · simp
    · rintro ⟨h, h'⟩; rcases hf with hf | hf
      · exact hf h
      · rw [hf] at h'; cases h'
  | succ f ih =>
    intro n first rest hn hf m hm
    obtain ⟨m, rfl⟩ : ∃ q, m = q + 1 := ⟨m - 1, by omega⟩
    by_cases h1 : n < 128
    · have h2 := u8_ofNat n (by omega)
      simp only [putF, if_pos h1, List.cons_append, tk, h2]
      rw [if_neg (by omega), if_neg]
      · simp
      · rintro ⟨h, h'⟩; rcases hf with hf | hf
        · exact hf h
        · rw [hf] at h'; cases h'
    · have h2 := u8_ofNat (128 + n % 128) (by omega)
      have h3 : n / 128 < 128 ^ (f + 1) := by rw [Nat.pow_succ] at hn; exact Nat.div_lt_of_lt_mul (by rw [Nat.mul_comm]; exact hn)
      have h4 := ih (n / 128) false rest h3 (.inl (by omega)) m (by omega)
      simp only [putF, if_neg h1, List.cons_append, tk, h2, h4]
      rw [if_pos (by omega)]
      simp
      omega
/-- What is taken stood there as it is put. -/
theorem tk_back (m : Nat) : ∀ (first : Bool) (l : List UInt8), (tk m first l).2.2 = 0 → ∀ f, m ≤ f + 1 → l.take (tk m first l).2.1 = putF f (tk m first l).1 ∧ (tk m first l).1 < 128 ^ m ∧ (tk m first l).2.1 ≤ l.length ∧ 1 ≤ (tk m first l).2.1 ∧ (tk m first l).2.1 ≤ m ∧ ((tk m first l).1 ≠ 0 ∨ first = true) := by
  induction m with
  | zero => intro first l h; simp [tk] at h
  | succ m ih =>
    intro first l h f hf
    cases l with
    | nil => simp [tk] at h
    | cons c l =>
      simp only [tk] at h ⊢
      by_cases h1 : 128 ≤ c.toNat
      · rw [if_pos h1] at h ⊢
        by_cases h2 : (tk m false l).2.2 = 0
        · obtain ⟨m', rfl⟩ : ∃ q, m = q + 1 := by cases m with
            | zero => simp [tk] at h2
            | succ q => exact ⟨q, rfl⟩
          obtain ⟨f, rfl⟩ : ∃ q, f = q + 1 := ⟨f - 1, by omega⟩
          obtain ⟨i1, i2, i3, i4, i5, i6⟩ := ih false l h2 f (by omega)
          rw [if_pos h2]
          have hc := u8_lt c
          have h5 : (tk (m' + 1) false l).1 ≠ 0 := by rcases i6 with i6 | i6; exact i6; cases i6
          generalize tk (m' + 1) false l = r at *
          refine ⟨?_, ?_, by simp; omega, by simp, by simp; omega, .inl (by simp; omega)⟩
          · simp only [List.take_succ_cons, putF]
            rw [if_neg (by omega), i1]
            congr 1
            · apply u8_ext; rw [u8_ofNat _ (by omega)]; omega
            · congr 1; omega
          · rw [Nat.pow_succ]; simp only; omega
        · rw [if_neg h2] at h; exact absurd h h2
      · rw [if_neg h1] at h ⊢
        by_cases h2 : c.toNat = 0 ∧ first = false
        · rw [if_pos h2] at h; simp at h
        · rw [if_neg h2]
          refine ⟨?_, ?_, by simp, by simp, by simp, ?_⟩
          · have : [c] = [UInt8.ofNat c.toNat] := by congr 1; apply u8_ext; rw [u8_ofNat _ (u8_lt c)]
            cases f with
            | zero => simp [putF]
            | succ f => simp only [putF, List.take_succ_cons, List.take_zero]; rw [if_pos (by omega)]; exact this
          · have := Nat.one_le_pow m 128 (by omega); rw [Nat.pow_succ]; simp only; omega
          · simp only
            by_cases h3 : c.toNat = 0
            · right; cases first with
              | true => rfl
              | false => exact absurd ⟨h3, rfl⟩ h2
            · exact .inl h3
/-- Only continuing bytes: too short, or too long from m on. -/
theorem tk_more (m : Nat) : ∀ (first : Bool) (l : List UInt8), (∀ c ∈ l.take m, 128 ≤ c.toNat) → tk m first l = if l.length < m then (0, 0, 10) else (0, 0, 11) := by
  induction m with
  | zero => intro first l _; simp [tk]
  | succ m ih =>
    intro first l h
    cases l with
    | nil => simp [tk]
    | cons c l =>
      have h1 := h c (by simp)
      have h2 := ih false l (fun d hd => h d (by simp [hd]))
      simp only [tk, h2, List.length_cons]
      rw [if_pos h1]
      by_cases h3 : l.length < m
      · simp only [if_pos h3, if_pos (show l.length + 1 < m + 1 by omega)]; rfl
      · simp only [if_neg h3, if_neg (show ¬ l.length + 1 < m + 1 by omega)]; rfl
/-! ### the machine's arithmetic -/
theorem wraps_i64' (n : Int) (h₀ : 0 ≤ n) (h₁ : n < 2 ^ 63) : IntKind.i64.wrap n = n := by rw [IntKind.wrap_i64]; omega
theorem and127 (x : Int) (h0 : 0 ≤ x) (h1 : x < 2 ^ 63) : Go.bits .and .i64 x 127 = x % 128 := bits_mask .i64 63 (by decide) wraps_i64' 7 (by decide) x h0 h1
theorem bits_or_comm (k : IntKind) (x y : Int) : Go.bits .or k x y = Go.bits .or k y x := by simp [Go.bits, BitVec.or_comm]
theorem or_128 (y : Int) (h0 : 0 ≤ y) (h1 : y < 128) : Go.bits .or .i64 y 128 = 128 + y := by
  rw [bits_or_comm]
  exact bits_join .i64 63 (by decide) wraps_i64' 7 128 y (by decide) (by decide) (by decide) h0 h1 (by omega)
theorem put_byte (n : Nat) (h : n < 9223372036854775808) : (Go.bits .or .i64 (Go.bits .and .i64 (n : Int) 127) 128) % 256 = ((UInt8.ofNat (128 + n % 128)).toNat : Int) := by
  rw [and127 _ (by omega) (by omega), or_128 _ (by omega) (by omega), u8_ofNat _ (by omega)]
  omega
theorem and_byte (c : UInt8) : Go.bits .and .i64 (c.toNat : Int) 127 = ((c.toNat % 128 : Nat) : Int) := by
  have := u8_lt c
  rw [and127 _ (by omega) (by omega)]
  omega
theorem last_byte (n : Nat) (h : n < 128) : (n : Int) % 256 = ((UInt8.ofNat n).toNat : Int) := by rw [u8_ofNat _ (by omega)]; omega
theorem pow128 (i : Nat) : (2 : Nat) ^ (7 * i) = 128 ^ i := by rw [Nat.pow_mul]
theorem pow128_le {i : Nat} (hi : i ≤ 8) : (128 : Nat) ^ i ≤ 72057594037927936 := by
  have := Nat.pow_le_pow_right (n := 128) (by omega) hi
  simpa using this
theorem shl7 (i c : Nat) (hi : i ≤ 8) (hc : c < 128) : shl .i64 (c : Int) (7 * (i : Int)) = ((c * 128 ^ i : Nat) : Int) := by
  unfold shl
  have h1 : min (7 * (i : Int)).toNat IntKind.i64.bits = 7 * i := by
    have : IntKind.i64.bits = 64 := rfl
    rw [this]; omega
  have h2 : (2 : Int) ^ (7 * i) = ((128 ^ i : Nat) : Int) := by rw [← pow128]; simp
  rw [h1, h2]
  have h3 := pow128_le hi
  have h4 : c * 128 ^ i ≤ 127 * 72057594037927936 := Nat.mul_le_mul (by omega) h3
  rw [show (c : Int) * ((128 ^ i : Nat) : Int) = ((c * 128 ^ i : Nat) : Int) by simp]
  exact wraps_i64' _ (by omega) (by omega)
theorem or_shl (i acc c : Nat) (hi : i ≤ 8) (ha : acc < 128 ^ i) (hc : c < 128) : Go.bits .or .i64 (acc : Int) (shl .i64 (c : Int) (7 * (i : Int))) = ((acc + c * 128 ^ i : Nat) : Int) := by
  rw [shl7 i c hi hc, bits_or_comm]
  have h3 := pow128_le hi
  have h4 : c * 128 ^ i ≤ 127 * 72057594037927936 := Nat.mul_le_mul (by omega) h3
  have h5 : ((128 ^ i : Nat) : Int) = 2 ^ (7 * i) := by rw [← pow128]; simp
  rw [bits_join .i64 63 (by decide) wraps_i64' (7 * i) ((c * 128 ^ i : Nat) : Int) (acc : Int) (by omega) ?_ (by omega) (by omega) (by rw [← h5]; exact_mod_cast ha) (by omega)]
  · omega
  · rw [← h5]
    have : (c * 128 ^ i) % 128 ^ i = 0 := Nat.mul_mod_left _ _
    exact_mod_cast this
theorem tdiv128 (n : Nat) : Int.tdiv (n : Int) 128 = ((n / 128 : Nat) : Int) := by rw [Int.tdiv_eq_ediv_of_nonneg (by omega)]; omega
theorem tmod128 (n : Nat) : Int.tmod (n : Int) 128 = ((n % 128 : Nat) : Int) := by rw [Int.tmod_eq_emod_of_nonneg (by omega)]; omega
theorem strOfNums_bytes (l : List UInt8) : strOfNums (l.map fun c => (c.toNat : Int)) = arr l := by
  apply lst_inj
  simp only [strOfNums, lst, arr, List.map_map]
  rw [List.map_congr_left (g := id) (fun c _ => by simp)]
  simp

/-! ### another way to take: count, add, put again -/
def lead : List UInt8 → Nat
  | [] => 0
  | c :: l => if 128 ≤ c.toNat then lead l + 1 else 0
def sumF : List UInt8 → Nat
  | [] => 0
  | c :: l => c.toNat % 128 + 128 * sumF l
theorem lead_le (l : List UInt8) : lead l ≤ l.length := by
  induction l with
  | nil => simp [lead]
  | cons c l ih => simp only [lead]; split <;> simp <;> omega
theorem lead_more (l : List UInt8) : ∀ m, m ≤ lead l → ∀ c ∈ l.take m, 128 ≤ c.toNat := by
  induction l with
  | nil => intro m _ c hc; simp at hc
  | cons d l ih =>
    intro m hm c hc
    cases m with
    | zero => simp at hc
    | succ m =>
      simp only [lead] at hm
      split at hm
      · rename_i h
        rcases List.mem_cons.1 (by simpa using hc) with rfl | h2
        · exact h
        · exact ih m (by omega) c h2
      · omega
theorem tk_lead (l : List UInt8) : ∀ (m : Nat) (first : Bool) (h : lead l < l.length), lead l < m → tk m first l = if (l[lead l]'h).toNat = 0 ∧ (0 < lead l ∨ first = false) then (0, 0, 11) else (sumF (l.take (lead l + 1)), lead l + 1, 0) := by
  induction l with
  | nil => intro m first h; simp [lead] at h
  | cons c l ih =>
    intro m first h hm
    obtain ⟨m, rfl⟩ : ∃ q, m = q + 1 := ⟨m - 1, by omega⟩
    by_cases h1 : 128 ≤ c.toNat
    · have e : lead (c :: l) = lead l + 1 := by simp [lead, h1]
      have h' : lead l < l.length := by rw [e] at h; simp at h; exact h
      have h2 := ih m false h' (by omega)
      simp only [e, List.getElem_cons_succ]
      simp only [tk, if_pos h1, h2]
      by_cases h3 : (l[lead l]'h').toNat = 0
      · simp [h3]
      · simp only [h3, false_and, if_false, if_true, List.take_succ_cons, sumF]
        have := u8_lt c
        refine Prod.ext (by simp only; omega) rfl
    · have e : lead (c :: l) = 0 := by simp [lead, h1]
      simp only [e, List.getElem_cons_zero]
      simp only [tk, if_neg h1]
      have h5 : c.toNat % 128 = c.toNat := by omega
      simp [sumF, h5]
theorem lead_take (l : List UInt8) (h : lead l < l.length) : lead (l.take (lead l + 1)) = lead l := by
  induction l with
  | nil => simp [lead] at h
  | cons c l ih =>
    by_cases h1 : 128 ≤ c.toNat
    · have e : lead (c :: l) = lead l + 1 := by simp [lead, h1]
      have h' : lead l < l.length := by rw [e] at h; simp at h; exact h
      rw [e, List.take_succ_cons]
      simp only [lead, if_pos h1, ih h']
    · have e : lead (c :: l) = 0 := by simp [lead, h1]
      simp [lead, h1]
theorem put_nat (n : Nat) (h : n < 4611686018427387904) : put (n : Int) = putF 8 n := by unfold put; rw [if_neg (by omega)]; simp
theorem put_big (n : Int) (h : 4611686018427387904 ≤ n) : put n = [] := by unfold put; rw [if_pos (by omega)]
theorem tkh_lead (l : List UInt8) (h : lead l < l.length) (h8 : lead l ≤ 8) : tkh l = if put (sumF (l.take (lead l + 1)) : Nat) = l.take (lead l + 1) then (sumF (l.take (lead l + 1)), lead l + 1, 0) else (0, 0, 11) := by
  have h1 := tk_lead l 9 true h (by omega)
  have hne : l.take (lead l + 1) ≠ [] := by
    intro e
    have := congrArg List.length e
    rw [List.length_take, List.length_nil] at this
    omega
  by_cases hz : (l[lead l]'h).toNat = 0 ∧ (0 < lead l ∨ true = false)
  · rw [if_pos hz] at h1
    have e1 : tkh l = (0, 0, 11) := by simp [tkh, h1]
    rw [e1, if_neg]
    intro e
    by_cases hb : sumF (l.take (lead l + 1)) < 4611686018427387904
    · rw [put_nat _ hb] at e
      have h2 := tk_put 8 (sumF (l.take (lead l + 1))) true [] (by omega) (.inr rfl) 9 (by omega)
      rw [List.append_nil, e] at h2
      have h3 := tk_lead (l.take (lead l + 1)) 9 true (by rw [lead_take l h]; simp; omega) (by rw [lead_take l h]; omega)
      have h4 : ((l.take (lead l + 1))[lead (l.take (lead l + 1))]'(by rw [lead_take l h]; simp; omega)) = l[lead l]'h := by
        simp [lead_take l h]
      rw [h4, lead_take l h, if_pos hz, h2] at h3
      simp at h3
    · rw [put_big _ (by omega)] at e
      exact hne e.symm
  · rw [if_neg hz] at h1
    have h2 := tk_back 9 true l (by rw [h1]) 8 (by omega)
    rw [h1] at h2
    simp only at h2
    by_cases hb : sumF (l.take (lead l + 1)) < 4611686018427387904
    · rw [put_nat _ hb, if_pos h2.1.symm]
      simp only [tkh, h1, if_true]
      rw [if_neg (by omega)]
    · rw [put_big _ (by omega), if_neg (fun e => hne e.symm)]
      simp only [tkh, h1, if_true]
      rw [if_pos (by omega)]
theorem tkh_more (l : List UInt8) (h : lead l = l.length ∨ 9 ≤ lead l) : tkh l = if l.length < 9 then (0, 0, 10) else (0, 0, 11) := by
  have h1 := tk_more 9 true l (by
    rcases h with h | h
    · intro c hc
      refine lead_more l (lead l) (Nat.le_refl _) c ?_
      rw [h, List.take_of_length_le (Nat.le_refl _)]
      exact List.mem_of_mem_take hc
    · exact lead_more l 9 h)
  unfold tkh
  rw [h1]
  split <;> simp
theorem wrap64_of {x : Int} (h0 : -9223372036854775808 ≤ x) (h1 : x < 9223372036854775808) : wrap64 x = x := by unfold wrap64; omega
theorem wrap64_nat' {x : Int} {n : Nat} (h : x = n) (h1 : x < 9223372036854775808) : wrap64 x = (n : Int) := by rw [wrap64_of (by omega) h1, h]
/-- What the rest of a take comes to, from place i of the number on, of weight U there. -/
def fin0 (p i acc U : Nat) (r : Nat × Nat × Nat) : Int × Int × Int :=
  if r.2.2 = 0 then (if acc + r.1 * U ≥ 4611686018427387904 then (0, 0, 11) else (((acc + r.1 * U : Nat) : Int), ((p + i + r.2.1 : Nat) : Int), 0)) else (0, 0, r.2.2)
def fin (p i acc : Nat) (r : Nat × Nat × Nat) : Int × Int × Int := fin0 p i acc (128 ^ i) r
theorem fin_succ (p i a : Nat) (r : Nat × Nat × Nat) : fin p (i + 1) a r = fin0 p (i + 1) a (128 ^ i * 128) r := by unfold fin; rw [Nat.pow_succ]
theorem fin_now (p i a : Nat) (r : Nat × Nat × Nat) : fin p i a r = fin0 p i a (128 ^ i) r := by unfold fin; rfl
theorem fin0_err (p i acc U : Nat) (r : Nat × Nat × Nat) (h : r.2.2 ≠ 0) : fin0 p i acc U r = (0, 0, (r.2.2 : Int)) := by unfold fin0; rw [if_neg h]
theorem fin0_next (p i acc U : Nat) (c : UInt8) (h : 128 ≤ c.toNat) (r : Nat × Nat × Nat) : fin0 p i acc U (if r.2.2 = 0 then (c.toNat - 128 + 128 * r.1, r.2.1 + 1, 0) else (0, 0, r.2.2)) = fin0 p (i + 1) (acc + c.toNat % 128 * U) (U * 128) r := by
  by_cases h3 : r.2.2 = 0
  · rw [if_pos h3]
    unfold fin0
    simp only [h3, if_true]
    have hc := u8_lt c
    have e9 : acc + (c.toNat - 128 + 128 * r.1) * U = acc + c.toNat % 128 * U + r.1 * (U * 128) := by
      rw [show c.toNat - 128 = c.toNat % 128 by omega, Nat.add_mul, ← Nat.add_assoc]
      congr 1
      rw [Nat.mul_comm 128 r.1, Nat.mul_assoc, Nat.mul_comm 128]
    rw [e9, show p + i + (r.2.1 + 1) = p + (i + 1) + r.2.1 by omega]
  · rw [if_neg h3, fin0_err _ _ _ _ r h3, fin0_err _ _ _ _ (0, 0, r.2.2) h3]
theorem fin_tkh (p : Nat) (l : List UInt8) : fin p 0 0 (tk 9 true l) = if (tkh l).2.2 = 0 then (((tkh l).1 : Int), (p : Int) + (tkh l).2.1, 0) else (0, 0, ((tkh l).2.2 : Int)) := by
  unfold fin fin0 tkh
  by_cases h : (tk 9 true l).2.2 = 0
  · simp only [h, if_true, Nat.pow_zero, Nat.mul_one, Nat.zero_add, Nat.add_zero]
    by_cases h2 : (tk 9 true l).1 ≥ 4611686018427387904
    · rw [if_pos h2, if_pos h2]; rfl
    · rw [if_neg h2, if_neg h2, if_pos h]
      simp
  · simp only [h, if_false]
theorem put_byte_sum (n : Nat) : (wrap64 (128 + ((n % 128 : Nat) : Int))) % 256 = ((UInt8.ofNat (128 + n % 128)).toNat : Int) := by
  rw [u8_ofNat _ (by omega), wrap64_of (by omega) (by omega)]
  omega
theorem wrap64_div (n : Nat) (h : n < 9223372036854775808) : wrap64 ((n / 128 : Nat) : Int) = ((n / 128 : Nat) : Int) := wrap64_of (by omega) (by omega)
/-! ### whole numbers, at the begin of a text and anywhere in it -/
theorem tkh_back (l : List UInt8) (h : (tkh l).2.2 = 0) : put ((tkh l).1 : Nat) = l.take (tkh l).2.1 ∧ putF 8 (tkh l).1 = l.take (tkh l).2.1 ∧ (tkh l).1 < 4611686018427387904 ∧ (tkh l).2.1 ≤ l.length ∧ 1 ≤ (tkh l).2.1 ∧ (tkh l).2.1 ≤ 9 := by
  unfold tkh at h ⊢
  by_cases h1 : (tk 9 true l).2.2 = 0
  · rw [if_pos h1] at h ⊢
    by_cases h2 : (tk 9 true l).1 ≥ 4611686018427387904
    · rw [if_pos h2] at h; simp at h
    · rw [if_neg h2]
      have h3 := tk_back 9 true l h1 8 (by omega)
      refine ⟨?_, h3.1.symm, by omega, h3.2.2.1, h3.2.2.2.1, h3.2.2.2.2.1⟩
      rw [put_nat _ (by omega), h3.1]
  · rw [if_neg h1] at h; exact absurd h h1
theorem tkh_err (l : List UInt8) : (tkh l).2.2 = 0 ∨ tkh l = (0, 0, 10) ∨ tkh l = (0, 0, 11) := by
  unfold tkh
  rcases tk_err 9 true l with h | h | h
  · rw [if_pos h]
    split
    · exact .inr (.inr rfl)
    · exact .inl h
  · rw [h]; exact .inr (.inl rfl)
  · rw [h]; exact .inr (.inr rfl)
theorem put_ok {n : Int} (h : put n ≠ []) : ∃ m : Nat, n = m ∧ m < 4611686018427387904 ∧ put n = putF 8 m := by
  by_cases h0 : n < 0 ∨ n ≥ 4611686018427387904
  · exfalso; apply h; unfold put; rw [if_pos h0]
  · obtain ⟨m, rfl⟩ := Int.eq_ofNat_of_zero_le (show 0 ≤ n by omega)
    exact ⟨m, rfl, by omega, put_nat m (by omega)⟩
theorem put_len (n : Int) : (put n).length ≤ 9 := by
  unfold put
  split
  · simp
  · have := putF_len 8 n.toNat; omega
theorem takeL_back (l : List UInt8) (p : Int) (h : (takeL l p).2.2 = 0) : 0 ≤ p ∧ ∃ u : Nat, (takeL l p).2.1 = p + u ∧ 1 ≤ u ∧ u ≤ 9 ∧ p.toNat + u ≤ l.length ∧ put (takeL l p).1 = (l.drop p.toNat).take u := by
  unfold takeL at h ⊢
  by_cases h0 : p < 0 ∨ p > l.length
  · rw [if_pos h0] at h; simp at h
  · rw [if_neg h0] at h ⊢
    by_cases h1 : (tkh (l.drop p.toNat)).2.2 = 0
    · rw [if_pos h1]
      obtain ⟨b1, _, b2, b3, b4, b5⟩ := tkh_back _ h1
      rw [List.length_drop] at b3
      exact ⟨by omega, (tkh (l.drop p.toNat)).2.1, rfl, b4, b5, by omega, b1⟩
    · rw [if_neg h1] at h; simp at h; omega
end ShCore

/- What varint's printed functions come to, by the plain lists of bytes. For every input. -/
namespace Go.Proofs.Ytfcombimnmkoeaa.Q
open Go Go.RowKit Go.Proofs.YtfcombimnmkoeaaW.PrintWords Go.Proofs.YtfcombimnmkoeaaW.PrintLast Go.Proofs.YtfcombimnmkoeaaW.PrintMore ShCore

theorem varint_Put.l0_ev (f : Nat) : ∀ (n : Nat) (acc : List Int), n < 128 ^ (f + 1) → n < 9223372036854775808 → acc.length + f < 1000 →
    Ev (fun k => varint_Put.l0 k n acc) (strOfNums (acc ++ (putF f n).map fun c => (c.toNat : Int))) := by
  induction f with
  | zero =>
    intro n acc hn _ hl
    have h1 : n < 128 := by simpa using hn
    refine Ev.step (f := fun _ => some _) (fun k => ?_) (Ev.now _)
    simp only [varint_Put.l0]
    rw [if_neg (by omega), if_pos (by omega), last_byte n h1]
    rfl
  | succ f ih =>
    intro n acc hn hb hl
    by_cases h1 : n < 128
    · refine Ev.step (f := fun _ => some _) (fun k => ?_) (Ev.now _)
      simp only [varint_Put.l0]
      rw [if_neg (by omega), if_pos (by omega), last_byte n h1]
      simp only [putF, if_pos h1]
      rfl
    · have h3 : n / 128 < 128 ^ (f + 1) := by rw [Nat.pow_succ] at hn; exact Nat.div_lt_of_lt_mul (by rw [Nat.mul_comm]; exact hn)
      have h2 := ih (n / 128) (acc ++ [((UInt8.ofNat (128 + n % 128)).toNat : Int)]) h3 (by omega) (by simp; omega)
      refine Ev.step (fun k => ?_) (r := _) (f := fun k => varint_Put.l0 k ((n / 128 : Nat) : Int) (acc ++ [((UInt8.ofNat (128 + n % 128)).toNat : Int)])) ?_
      · simp only [varint_Put.l0]
        rw [if_pos (by omega), if_pos (by omega), put_byte n hb]
        rfl
      · simp only [putF, if_neg h1, List.map_cons]
        rw [List.append_assoc] at h2
        exact h2
theorem varint_Put.ev (n : Int) : Ev (fun k => varint_Put.f k n) (arr (put n)) := by
  have e0 : (⟨#[]⟩ : ByteArray) = arr [] := rfl
  by_cases h0 : n < 0
  · have e : put n = [] := by unfold put; rw [if_pos (.inl h0)]
    rw [e]
    refine Ev.step (f := fun _ => some _) (fun k => ?_) (Ev.now _)
    unfold varint_Put.f
    rw [if_pos h0]
    rfl
  · by_cases h1 : n ≥ 4611686018427387904
    · have e : put n = [] := by unfold put; rw [if_pos (.inr h1)]
      rw [e]
      refine Ev.step (f := fun _ => some _) (fun k => ?_) (Ev.now _)
      unfold varint_Put.f
      rw [if_neg h0]
      simp only [varint_Put.j0, decide_eq_true h1]
      rfl
    · obtain ⟨m, rfl⟩ := Int.eq_ofNat_of_zero_le (show 0 ≤ n by omega)
      rw [put_nat m (by omega)]
      have h2 := varint_Put.l0_ev 8 m [] (by omega) (by omega) (by simp)
      rw [List.nil_append, strOfNums_bytes] at h2
      refine Ev.step (fun k => ?_) h2
      unfold varint_Put.f
      rw [if_neg h0]
      simp only [varint_Put.j0, decide_eq_false h1]
      rfl

theorem varint_Take.l0_ev (s : ByteArray) (p : Nat) (hp : p ≤ s.size) (hs : s.size < 4611686018427387904) (lim : Nat) (hlim : lim = min 9 (s.size - p)) (d : Nat) : ∀ (i acc : Nat), i + d = lim → acc < 128 ^ i →
    Ev (fun k => varint_Take.l0 k s p acc lim i) (fin p i acc (tk (9 - i) (i == 0) ((lst s).drop (p + i)))) := by
  have hlen := lst_length s
  induction d with
  | zero =>
    intro i acc hi ha
    refine Ev.step (f := fun _ => some _) (fun k => ?_) (Ev.now _)
    simp only [varint_Take.l0]
    rw [if_neg (by omega)]
    have a1 : (s.size : Int) - p = ((s.size - p : Nat) : Int) ∧ (s.size : Int) - p < 9223372036854775808 := by omega
    rw [wrap64_nat' a1.1 a1.2]
    by_cases h9 : s.size - p < 9
    · rw [if_pos (by omega)]
      obtain ⟨q, hq⟩ : ∃ q, 9 - i = q + 1 := ⟨8 - i, by omega⟩
      have hd : (lst s).drop (p + i) = [] := List.drop_eq_nil_of_le (by omega)
      rw [hq, hd]
      rfl
    · rw [if_neg (by omega)]
      rw [show 9 - i = 0 by omega]
      rfl
  | succ d ih =>
    intro i acc hi ha
    have hlt : p + i < s.size := by omega
    obtain ⟨c, hc, hb⟩ := drop_bt s (p + i) hlt
    obtain ⟨q, hq⟩ : ∃ q, 9 - i = q + 1 := ⟨8 - i, by omega⟩
    have hc8 := u8_lt c
    have hU := pow128_le (show i ≤ 8 by omega)
    have hV : c.toNat % 128 * 128 ^ i ≤ 127 * 128 ^ i := Nat.mul_le_mul_right _ (by omega)
    have hcm : c.toNat % 128 < 128 := by clear hU hV ha; omega
    have hi8 : i ≤ 8 := by clear hU hV ha; omega
    have e7 := or_shl i acc (c.toNat % 128) hi8 ha hcm
    have eP : 128 ^ (i + 1) = 128 ^ i * 128 := Nat.pow_succ ..
    have e6 := and_byte c
    have eF : ∀ r, fin p i acc r = fin0 p i acc (128 ^ i) r := fin_now p i acc
    have eG : ∀ a r, fin p (i + 1) a r = fin0 p (i + 1) a (128 ^ i * 128) r := fin_succ p i
    rw [eF]
    generalize 128 ^ i = U at hU hV ha e7 eP eF eG
    have a1 : (p : Int) + i = ((p + i : Nat) : Int) ∧ (p : Int) + i < 9223372036854775808 := by omega
    have a2 : (c.toNat : Int) < 9223372036854775808 := by omega
    have a3 : -9223372036854775808 ≤ 7 * (i : Int) ∧ 7 * (i : Int) < 9223372036854775808 := by omega
    have a4 : (i : Int) + 1 = ((i + 1 : Nat) : Int) ∧ (i : Int) + 1 < 9223372036854775808 := by omega
    have a5 : ((p + i : Nat) : Int) + 1 = ((p + i + 1 : Nat) : Int) ∧ ((p + i : Nat) : Int) + 1 < 9223372036854775808 := by omega
    rw [hq, hc]
    by_cases h1 : 128 ≤ c.toNat
    · have h2 := ih (i + 1) (acc + c.toNat % 128 * U) (by omega) (by rw [eP]; omega)
      refine Ev.step (fun k => ?_) (f := fun k => varint_Take.l0 k s p ((acc + c.toNat % 128 * U : Nat) : Int) lim ((i + 1 : Nat) : Int)) ?_
      · simp only [varint_Take.l0, wrap64_nat' a1.1 a1.2, hb, wrap64_nat' rfl a2, wrap64_of a3.1 a3.2, wrap64_nat' a4.1 a4.2, e6, e7]
        rw [if_pos (by omega), if_pos (by omega), if_pos (by omega), if_pos (by omega), if_pos (by omega)]
      · rw [eG, show 9 - (i + 1) = q by omega, show (i + 1 == 0) = false from rfl, show p + (i + 1) = p + i + 1 by omega] at h2
        simp only [tk, if_pos h1]
        have e8 := fin0_next p i acc U c h1 (tk q false ((lst s).drop (p + i + 1)))
        rw [e8]
        exact h2
    · refine Ev.step (f := fun _ => some _) (fun k => ?_) (Ev.now _)
      have e8 : c.toNat % 128 = c.toNat := by omega
      rw [e8] at hV e6 e7
      simp only [varint_Take.l0, wrap64_nat' a1.1 a1.2, hb, wrap64_nat' rfl a2, wrap64_of a3.1 a3.2, wrap64_nat' a4.1 a4.2, wrap64_nat' a5.1 a5.2, e6, e7]
      rw [if_pos (by omega), if_pos (by omega), if_pos (by omega), if_pos (by omega), if_neg (by omega)]
      simp only [tk, if_neg h1]
      by_cases hz : c.toNat = 0
      · rw [if_pos (by omega)]
        by_cases hi0 : i = 0
        · subst hi0
          rw [if_neg (by omega), if_neg (by omega), if_neg (by omega), if_neg (by simp)]
          simp [fin0, hz]
          omega
        · rw [if_pos (by omega), if_pos ⟨hz, by simp; omega⟩]
          rfl
      · have hz' : ¬ (c.toNat = 0 ∧ (i == 0) = false) := fun h => hz h.1
        rw [if_neg (by omega), if_neg hz']
        unfold fin0
        simp only [if_true]
        by_cases hm : acc + c.toNat * U ≥ 4611686018427387904
        · rw [if_pos (by omega), if_pos hm]
        · rw [if_neg (by omega), if_neg (by omega), if_neg hm]
theorem varint_Take.ev (s : ByteArray) (p : Int) (hs : s.size < 4611686018427387904) : Ev (fun k => varint_Take.f k s p) (takeL (lst s) p) := by
  have hlen := lst_length s
  by_cases h0 : p < 0
  · have e : takeL (lst s) p = (0, 0, 1) := by unfold takeL; rw [if_pos (.inl h0)]
    rw [e]
    refine Ev.step (f := fun _ => some _) (fun k => ?_) (Ev.now _)
    unfold varint_Take.f
    rw [if_pos h0]
    rfl
  · by_cases h1 : p > (s.size : Int)
    · have e : takeL (lst s) p = (0, 0, 1) := by unfold takeL; rw [if_pos (.inr (by omega))]
      rw [e]
      refine Ev.step (f := fun _ => some _) (fun k => ?_) (Ev.now _)
      unfold varint_Take.f
      rw [if_neg h0]
      simp only [varint_Take.j0, decide_eq_true h1]
      rfl
    · obtain ⟨q, rfl⟩ := Int.eq_ofNat_of_zero_le (show 0 ≤ p by omega)
      have e : takeL (lst s) (q : Int) = fin q 0 0 (tk 9 true ((lst s).drop q)) := by
        unfold takeL
        rw [if_neg (by omega), fin_tkh]
        simp
      rw [e]
      have h2 := varint_Take.l0_ev s q (by omega) hs (min 9 (s.size - q)) rfl (min 9 (s.size - q)) 0 0 (by omega) (by simp)
      refine Ev.step (fun k => ?_) h2
      unfold varint_Take.f
      rw [if_neg h0]
      simp only [varint_Take.j0, decide_eq_false h1]
      have e2 : mn 9 (wrap64 ((s.size : Int) - q)) = ((min 9 (s.size - q) : Nat) : Int) := by unfold mn wrap64; split <;> omega
      rw [e2]
      rfl
end Go.Proofs.Ytfcombimnmkoeaa.Q

/- What the document's varint functions come to, by the plain lists of bytes. For every input. -/
namespace Go.Proofs.Ytfcombimnmkoeaa.Q
open Go Go.RowKit Go.Proofs.YtfcombimnmkoeaaW.PrintWords Go.Proofs.YtfcombimnmkoeaaW.PrintLast Go.Proofs.YtfcombimnmkoeaaW.PrintMore ShCore

theorem shuttlecockref01_Put.l0_ev (f : Nat) : ∀ (n : Nat) (acc : List Int), n < 128 ^ (f + 1) → n < 9223372036854775808 → acc.length + f < 1000 →
    Ev (fun k => shuttlecockref01_Put.l0 k n acc) (strOfNums (acc ++ (putF f n).map fun c => (c.toNat : Int))) := by
  induction f with
  | zero =>
    intro n acc hn _ hl
    have h1 : n < 128 := by simpa using hn
    refine Ev.step (f := fun _ => some _) (fun k => ?_) (Ev.now _)
    simp only [shuttlecockref01_Put.l0]
    rw [if_neg (by omega), if_pos (by omega), last_byte n h1]
    rfl
  | succ f ih =>
    intro n acc hn hb hl
    by_cases h1 : n < 128
    · refine Ev.step (f := fun _ => some _) (fun k => ?_) (Ev.now _)
      simp only [shuttlecockref01_Put.l0]
      rw [if_neg (by omega), if_pos (by omega), last_byte n h1]
      simp only [putF, if_pos h1]
      rfl
    · have h3 : n / 128 < 128 ^ (f + 1) := by rw [Nat.pow_succ] at hn; exact Nat.div_lt_of_lt_mul (by rw [Nat.mul_comm]; exact hn)
      have h2 := ih (n / 128) (acc ++ [((UInt8.ofNat (128 + n % 128)).toNat : Int)]) h3 (by omega) (by simp; omega)
      refine Ev.step (fun k => ?_) (r := _) (f := fun k => shuttlecockref01_Put.l0 k ((n / 128 : Nat) : Int) (acc ++ [((UInt8.ofNat (128 + n % 128)).toNat : Int)])) ?_
      · simp only [shuttlecockref01_Put.l0]
        rw [if_pos (by omega), if_pos (by omega), tdiv128, tmod128, put_byte_sum n, wrap64_div n hb]
      · simp only [putF, if_neg h1, List.map_cons]
        rw [List.append_assoc] at h2
        exact h2
theorem shuttlecockref01_Put.ev (n : Int) : Ev (fun k => shuttlecockref01_Put.f k n) (arr (put n)) := by
  by_cases h0 : n < 0
  · have e : put n = [] := by unfold put; rw [if_pos (.inl h0)]
    rw [e]
    refine Ev.step (f := fun _ => some _) (fun k => ?_) (Ev.now _)
    unfold shuttlecockref01_Put.f
    rw [if_pos h0]
    rfl
  · by_cases h1 : n ≥ 4611686018427387904
    · have e : put n = [] := by unfold put; rw [if_pos (.inr h1)]
      rw [e]
      refine Ev.step (f := fun _ => some _) (fun k => ?_) (Ev.now _)
      unfold shuttlecockref01_Put.f
      rw [if_neg h0]
      simp only [shuttlecockref01_Put.j0, decide_eq_true h1]
      rfl
    · obtain ⟨m, rfl⟩ := Int.eq_ofNat_of_zero_le (show 0 ≤ n by omega)
      rw [put_nat m (by omega)]
      have h2 := shuttlecockref01_Put.l0_ev 8 m [] (by omega) (by omega) (by simp)
      rw [List.nil_append, strOfNums_bytes] at h2
      refine Ev.step (fun k => ?_) h2
      unfold shuttlecockref01_Put.f
      rw [if_neg h0]
      simp only [shuttlecockref01_Put.j0, decide_eq_false h1]
      rfl

end Go.Proofs.Ytfcombimnmkoeaa.Q

/- What the document's varint reading comes to, by the plain lists of bytes. For every input. -/
namespace Go.Proofs.Ytfcombimnmkoeaa.Q
open Go Go.RowKit Go.Proofs.YtfcombimnmkoeaaW.PrintWords Go.Proofs.YtfcombimnmkoeaaW.PrintLast Go.Proofs.YtfcombimnmkoeaaW.PrintMore ShCore

/-- The first loop: where the number ends. -/
theorem shuttlecockref01_Take.l0_ev (s : ByteArray) (p : Int) (hs : s.size < 4611686018427387904) (r : Int × Int × Int) : ∀ (l : List UInt8) (q : Nat), (lst s).drop q = l → q ≤ s.size →
    Ev (fun k => shuttlecockref01_Take.j2 k s p ((q + lead l : Nat) : Int)) r → Ev (fun k => shuttlecockref01_Take.l0 k s p (q : Int)) r := by
  have hlen := lst_length s
  intro l
  induction l with
  | nil =>
    intro q hl hq h
    have hq' : q = s.size := by
      have := congrArg List.length hl
      rw [List.length_drop, List.length_nil] at this
      omega
    refine Ev.step (fun k => ?_) h
    simp only [shuttlecockref01_Take.l0]
    rw [if_neg (by omega)]
    rfl
  | cons c l ih =>
    intro q hl hq h
    have hq' : q < s.size := by
      have := congrArg List.length hl
      rw [List.length_drop, List.length_cons] at this
      omega
    obtain ⟨d, hd, hb⟩ := drop_bt s q hq'
    rw [hl] at hd
    injection hd with hd1 hd2
    subst hd1
    by_cases h1 : 128 ≤ c.toNat
    · have h2 := ih (q + 1) hd2.symm (by omega) (by
        have : q + 1 + lead l = q + lead (c :: l) := by simp only [lead, if_pos h1]; omega
        rw [this]; exact h)
      refine Ev.step (fun k => ?_) h2
      simp only [shuttlecockref01_Take.l0]
      have a4 : (q : Int) + 1 = ((q + 1 : Nat) : Int) ∧ (q : Int) + 1 < 9223372036854775808 := by omega
      rw [if_pos (by omega), if_pos (by omega), hb, if_pos (by omega), wrap64_nat' a4.1 a4.2]
    · have e : q + lead (c :: l) = q := by simp [lead, h1]
      rw [e] at h
      refine Ev.step (fun k => ?_) h
      simp only [shuttlecockref01_Take.l0]
      rw [if_pos (by omega), if_pos (by omega), hb, if_neg (by omega)]
/-- What the sum comes to. -/
def sumEnd (p e : Nat) (sl : List UInt8) (n : Nat) : Int × Int × Int := if put n = sl then ((n : Int), ((p + e + 1 : Nat) : Int), 0) else (0, 0, 11)
theorem shuttlecockref01_Take.l1_ev (s : ByteArray) (p e : Nat) (he : p + e < s.size) (he8 : e ≤ 8) (hs : s.size < 4611686018427387904) : ∀ (d i n U : Nat), i + d = e + 1 → n < 128 ^ i → (i ≤ e → U = 128 ^ i) →
    Ev (fun k => shuttlecockref01_Take.l1 k s p ((p + e : Nat) : Int) n U ((p + i : Nat) : Int)) (sumEnd p e (((lst s).drop p).take (e + 1)) (n + sumF ((((lst s).drop p).take (e + 1)).drop i) * 128 ^ i)) := by
  have hlen := lst_length s
  intro d
  induction d with
  | zero =>
    intro i n U hi hn _
    have e1 : (((lst s).drop p).take (e + 1)).drop i = [] := List.drop_eq_nil_of_le (by rw [List.length_take]; omega)
    rw [e1]
    simp only [sumF, Nat.zero_mul, Nat.add_zero]
    have hx : Ev (fun k => shuttlecockref01_Put.f k (n : Int)) (arr (put n)) := shuttlecockref01_Put.ev n
    have a4 : ((p + e : Nat) : Int) + 1 = ((p + e + 1 : Nat) : Int) ∧ ((p + e : Nat) : Int) + 1 < 9223372036854775808 := by omega
    refine Ev.step (f := fun k => (shuttlecockref01_Put.f k (n : Int)).bind fun t => if t.toList = (s.extract p (p + e + 1)).toList then some ((n : Int), ((p + e + 1 : Nat) : Int), (0 : Int)) else some (0, 0, 11)) (fun k => ?_) (Ev.bind hx ?_)
    · simp only [shuttlecockref01_Take.l1]
      rw [if_neg (by omega), if_neg (by omega), wrap64_nat' a4.1 a4.2]
      congr 1
      funext t
      rw [if_pos (by omega), if_pos (by omega), if_pos (by omega)]
      rfl
    · simp only [toList_lst, lst_arr, lst_extract]
      unfold sumEnd
      rw [show p + e + 1 - p = e + 1 by omega]
      by_cases h : put n = ((lst s).drop p).take (e + 1)
      · rw [if_pos h, if_pos h]; exact Ev.now _
      · rw [if_neg h, if_neg h]; exact Ev.now _
  | succ d ih =>
    intro i n U hi hn hU
    obtain ⟨c, hc, hb⟩ := drop_bt s (p + i) (by omega)
    have hc8 := u8_lt c
    have e1 : (((lst s).drop p).take (e + 1)).drop i = c :: (((lst s).drop p).take (e + 1)).drop (i + 1) := by
      rw [List.drop_take, List.drop_drop, hc, show e + 1 - i = (e + 1 - (i + 1)) + 1 by omega, List.take_succ_cons, List.drop_take, List.drop_drop]
      rfl
    rw [e1]
    obtain rfl : U = 128 ^ i := hU (by omega)
    have eP : 128 ^ (i + 1) = 128 ^ i * 128 := Nat.pow_succ ..
    have hPl := pow128_le (show i ≤ 8 by clear hn; omega)
    have hV : c.toNat % 128 * 128 ^ i ≤ 127 * 128 ^ i := Nat.mul_le_mul_right _ (by omega)
    have hP2 : i < e → 128 ^ i * 128 ≤ 72057594037927936 := fun h => by rw [← eP]; exact pow128_le (by omega)
    have h1 := ih (i + 1) (n + c.toNat % 128 * 128 ^ i) (128 ^ (i + 1)) (by omega) (by rw [eP]; omega) (fun _ => rfl)
    have h2 : i = e → Ev (fun k => shuttlecockref01_Take.l1 k s p ((p + e : Nat) : Int) ((n + c.toNat % 128 * 128 ^ i : Nat) : Int) ((128 ^ i : Nat) : Int) ((p + (i + 1) : Nat) : Int)) (sumEnd p e (((lst s).drop p).take (e + 1)) ((n + c.toNat % 128 * 128 ^ i) + sumF ((((lst s).drop p).take (e + 1)).drop (i + 1)) * 128 ^ (i + 1))) :=
      fun h => ih (i + 1) (n + c.toNat % 128 * 128 ^ i) (128 ^ i) (by omega) (by rw [eP]; omega) (fun h' => by omega)
    have e2 : n + sumF (c :: (((lst s).drop p).take (e + 1)).drop (i + 1)) * 128 ^ i = (n + c.toNat % 128 * 128 ^ i) + sumF ((((lst s).drop p).take (e + 1)).drop (i + 1)) * 128 ^ (i + 1) := by
      simp only [sumF]
      rw [eP, Nat.add_mul, ← Nat.add_assoc]
      congr 1
      rw [Nat.mul_comm 128, Nat.mul_assoc, Nat.mul_comm 128]
    rw [e2]
    generalize sumEnd p e (((lst s).drop p).take (e + 1)) ((n + c.toNat % 128 * 128 ^ i) + sumF ((((lst s).drop p).take (e + 1)).drop (i + 1)) * 128 ^ (i + 1)) = R at *
    rw [eP] at h1
    clear e1 e2 eP ih hU
    generalize 128 ^ i = V at *
    generalize eW : c.toNat % 128 * V = W at *
    have a1 : ((n : Int) + ((W : Nat) : Int)) = ((n + W : Nat) : Int) ∧ ((n : Int) + ((W : Nat) : Int)) < 9223372036854775808 := by omega
    have a2 : ((c.toNat % 128 : Nat) : Int) * (V : Int) = ((W : Nat) : Int) ∧ ((c.toNat % 128 : Nat) : Int) * (V : Int) < 9223372036854775808 := by
      have : ((c.toNat % 128 : Nat) : Int) * (V : Int) = ((W : Nat) : Int) := by rw [← eW]; simp
      rw [this]
      omega
    have a3 : ((c.toNat % 128 : Nat) : Int) < 9223372036854775808 := by omega
    have hie : i ≤ e := by omega
    have a4 : ((p + i : Nat) : Int) + 1 = ((p + (i + 1) : Nat) : Int) ∧ ((p + i : Nat) : Int) + 1 < 9223372036854775808 := by omega
    by_cases h3 : i = e
    · refine Ev.step (fun k => ?_) (h2 h3)
      simp only [shuttlecockref01_Take.l1]
      rw [if_pos (by omega), if_pos (by omega), if_pos (by omega), if_neg (by omega), hb, tmod128, wrap64_nat' rfl a3, wrap64_nat' a2.1 a2.2, wrap64_nat' a1.1 a1.2, wrap64_nat' a4.1 a4.2]
    · have a5 : (V : Int) * 128 = ((V * 128 : Nat) : Int) ∧ (V : Int) * 128 < 9223372036854775808 := by omega
      refine Ev.step (fun k => ?_) h1
      simp only [shuttlecockref01_Take.l1]
      rw [if_pos (by omega), if_pos (by omega), if_pos (by omega), if_pos (by omega), hb, tmod128, wrap64_nat' rfl a3, wrap64_nat' a2.1 a2.2, wrap64_nat' a1.1 a1.2, wrap64_nat' a4.1 a4.2, wrap64_nat' a5.1 a5.2]
theorem shuttlecockref01_Take.ev (s : ByteArray) (p : Int) (hs : s.size < 4611686018427387904) : Ev (fun k => shuttlecockref01_Take.f k s p) (takeL (lst s) p) := by
  have hlen := lst_length s
  by_cases h0 : p < 0
  · have e : takeL (lst s) p = (0, 0, 1) := by unfold takeL; rw [if_pos (.inl h0)]
    rw [e]
    refine Ev.step (f := fun _ => some _) (fun k => ?_) (Ev.now _)
    unfold shuttlecockref01_Take.f
    rw [if_pos h0]
    rfl
  · by_cases h1 : p > (s.size : Int)
    · have e : takeL (lst s) p = (0, 0, 1) := by unfold takeL; rw [if_pos (.inr (by omega))]
      rw [e]
      refine Ev.step (f := fun _ => some _) (fun k => ?_) (Ev.now _)
      unfold shuttlecockref01_Take.f
      rw [if_neg h0]
      simp only [shuttlecockref01_Take.j0, decide_eq_true h1]
      rfl
    · obtain ⟨q, rfl⟩ := Int.eq_ofNat_of_zero_le (show 0 ≤ p by omega)
      refine Ev.step (f := fun k => shuttlecockref01_Take.l0 k s q q) (fun k => ?_) ?_
      · unfold shuttlecockref01_Take.f
        rw [if_neg h0]
        simp only [shuttlecockref01_Take.j0, decide_eq_false h1]
        rfl
      refine shuttlecockref01_Take.l0_ev s q hs _ ((lst s).drop q) q rfl (by omega) ?_
      have hll := lead_le ((lst s).drop q)
      have hdl : ((lst s).drop q).length = s.size - q := by rw [List.length_drop, hlen]
      unfold takeL
      rw [if_neg (by omega), Int.toNat_natCast]
      generalize hl : (lst s).drop q = l at *
      have a1 : ((q + lead l : Nat) : Int) - (q : Int) = ((lead l : Nat) : Int) ∧ ((q + lead l : Nat) : Int) - (q : Int) < 9223372036854775808 := by omega
      by_cases hend : q + lead l = s.size
      · have ht := tkh_more l (.inl (by omega))
        rw [ht]
        by_cases h9 : lead l < 9
        · rw [if_pos (show l.length < 9 by omega)]
          refine Ev.step (f := fun k => shuttlecockref01_Take.j3 k s q ((q + lead l : Nat) : Int) true) (fun k => ?_) (Ev.step (f := fun _ => some _) (fun k => ?_) (Ev.now _))
          · simp only [shuttlecockref01_Take.j2]
            rw [if_pos (by omega), wrap64_nat' a1.1 a1.2, decide_eq_true (by omega)]
          · rfl
        · rw [if_neg (show ¬ l.length < 9 by omega)]
          refine Ev.step (f := fun k => shuttlecockref01_Take.j3 k s q ((q + lead l : Nat) : Int) false) (fun k => ?_) (Ev.step (f := fun _ => some _) (fun k => ?_) (Ev.now _))
          · simp only [shuttlecockref01_Take.j2]
            rw [if_pos (by omega), wrap64_nat' a1.1 a1.2, decide_eq_false (by omega)]
          · simp only [shuttlecockref01_Take.j3]
            rw [if_neg (by simp), wrap64_nat' a1.1 a1.2, if_pos (by omega)]
            rfl
      · by_cases h9 : lead l ≤ 8
        · have ht := tkh_lead l (by omega) h9
          rw [ht]
          have hz := shuttlecockref01_Take.l1_ev s q (lead l) (by omega) h9 hs (lead l + 1) 0 0 1 (by omega) (by simp) (fun _ => by simp)
          rw [hl] at hz
          refine Ev.step (f := fun k => shuttlecockref01_Take.j3 k s q ((q + lead l : Nat) : Int) false) (fun k => ?_) (Ev.step (f := fun k => shuttlecockref01_Take.l1 k s q ((q + lead l : Nat) : Int) 0 1 q) (fun k => ?_) ?_)
          · simp only [shuttlecockref01_Take.j2]
            rw [if_neg (by omega)]
          · simp only [shuttlecockref01_Take.j3]
            rw [if_neg (by simp), wrap64_nat' a1.1 a1.2, if_neg (by omega)]
          · simp only [List.drop_zero, Nat.pow_zero, Nat.mul_one, Nat.zero_add] at hz
            unfold sumEnd at hz
            by_cases hp : put ((sumF (l.take (lead l + 1)) : Nat) : Int) = l.take (lead l + 1)
            · rw [if_pos hp] at hz ⊢
              simp only [if_true]
              exact hz
            · rw [if_neg hp] at hz ⊢
              exact hz
        · have ht := tkh_more l (.inr (by omega))
          rw [if_neg (show ¬ l.length < 9 by omega)] at ht
          rw [ht]
          refine Ev.step (f := fun k => shuttlecockref01_Take.j3 k s q ((q + lead l : Nat) : Int) false) (fun k => ?_) (Ev.step (f := fun _ => some _) (fun k => ?_) (Ev.now _))
          · simp only [shuttlecockref01_Take.j2]
            rw [if_neg (by omega)]
          · simp only [shuttlecockref01_Take.j3]
            rw [if_neg (by simp), wrap64_nat' a1.1 a1.2, if_pos (by omega)]
            rfl
end Go.Proofs.Ytfcombimnmkoeaa.Q

/- A reader of a text, as plain functions of lists of bytes; texts and numbers, one behind the other. No condition: plain lists and numbers alone, no program in sight. -/
namespace ShCore
open Go Go.RowKit Go.Proofs.YtfcombimnmkoeaaW.PrintWords Go.Proofs.YtfcombimnmkoeaaW.PrintMore

/-- A reader's place, its error, where the call with the error began. -/
structure Rd where
  a : Int
  e : Int
  f : Int
deriving DecidableEq
def rdTake0 (s : List UInt8) (r : Rd) (n b : Int) : List UInt8 × Rd :=
  if n < 0 then ([], ⟨b, 1, b⟩) else if n > s.length - r.a then ([], ⟨b, 10, b⟩) else ((s.drop r.a.toNat).take n.toNat, ⟨r.a + n, r.e, r.f⟩)
def rdTake (s : List UInt8) (r : Rd) (n : Int) : List UInt8 × Rd := if r.e = 0 then rdTake0 s r n r.a else ([], r)
def rdByte (s : List UInt8) (r : Rd) : Int × Rd := match (rdTake s r 1).1 with
  | [] => (0, (rdTake s r 1).2)
  | c :: _ => (c.toNat, (rdTake s r 1).2)
def rdNum (s : List UInt8) (r : Rd) : Int × Rd :=
  if r.e = 0 then (if (takeL s r.a).2.2 = 0 then ((takeL s r.a).1, ⟨(takeL s r.a).2.1, r.e, r.f⟩) else (0, ⟨r.a, (takeL s r.a).2.2, r.a⟩)) else (0, r)
def rdText (s : List UInt8) (r : Rd) : List UInt8 × Rd :=
  if r.e = 0 then (if (rdNum s r).2.e = 0 then rdTake0 s (rdNum s r).2 (rdNum s r).1 r.a else ([], (rdNum s r).2)) else ([], r)
def Rd.ok (s : List UInt8) (r : Rd) : Prop := 0 ≤ r.a ∧ r.a ≤ s.length
theorem takeL_le (l : List UInt8) (p : Int) (h : (takeL l p).2.2 = 0) : 0 ≤ (takeL l p).2.1 ∧ (takeL l p).2.1 ≤ l.length := by
  obtain ⟨h0, u, e, h1, h9, hl, _⟩ := takeL_back l p h
  omega
theorem rdNum_ok {s : List UInt8} {r : Rd} (h : r.ok s) : (rdNum s r).2.ok s := by
  unfold rdNum
  split
  · split
    · rename_i h1
      exact takeL_le s r.a h1
    · exact h
  · exact h
theorem takeL_nonneg (l : List UInt8) (p : Int) : 0 ≤ (takeL l p).1 ∧ (takeL l p).1 < 4611686018427387904 := by
  unfold takeL
  split
  · simp
  · split
    · rename_i h
      have := (tkh_back _ h).2.2.1
      simp only
      omega
    · simp
theorem rdNum_nonneg (s : List UInt8) (r : Rd) : 0 ≤ (rdNum s r).1 ∧ (rdNum s r).1 < 4611686018427387904 := by
  unfold rdNum
  split
  · split
    · exact takeL_nonneg s r.a
    · simp
  · simp

/-! ### numbers and texts, one behind the other -/
/-- The bytes of numbers; none, if one of them may not be. -/
def numsO : List Int → Option (List UInt8)
  | [] => some []
  | n :: l => if put n = [] then none else (numsO l).map (put n ++ ·)
def numsL (l : List Int) : List UInt8 := (numsO l).getD []
def text (s : List UInt8) : List UInt8 := put s.length ++ s
theorem nums_len : ∀ (l : List Int) (b : List UInt8), numsO l = some b → b.length ≤ 9 * l.length
  | [], b, h => by simp [numsO] at h; subst h; simp
  | n :: l, b, h => by
    simp only [numsO] at h
    split at h
    · cases h
    · obtain ⟨c, hc, rfl⟩ := Option.map_eq_some_iff.1 h
      have := nums_len l c hc
      have := put_len n
      simp
      omega
theorem text_len (s : List UInt8) : (text s).length ≤ s.length + 9 := by
  have := put_len s.length
  unfold text
  rw [List.length_append]
  omega
end ShCore

/- What was written is read, one behind the other; cut off it is too short. Plain lists and numbers alone. -/
namespace ShCore
open Go Go.RowKit Go.Proofs.YtfcombimnmkoeaaW.PrintWords Go.Proofs.YtfcombimnmkoeaaW.PrintMore

/-! ### pieces, one behind the other -/
def off {α : Type} (f : α → List UInt8) (l : List α) (i : Nat) : List UInt8 := (l.take i).flatMap f
theorem numsO_all : ∀ (l : List Int), (∀ n ∈ l, put n ≠ []) → numsO l = some (l.flatMap put)
  | [], _ => by simp [numsO]
  | n :: l, h => by
    rw [numsO, if_neg (h n List.mem_cons_self), numsO_all l (fun x hx => h x (List.mem_cons_of_mem _ hx))]
    simp
theorem numsO_none : ∀ (l : List Int) (n : Int), n ∈ l → put n = [] → numsO l = none
  | m :: l, n, h, e => by
    rw [numsO]
    split
    · rfl
    · rename_i hm
      rcases List.mem_cons.1 h with rfl | h
      · exact absurd e hm
      · rw [numsO_none l n h e]
        rfl
theorem numsL_cases (l : List Int) : (∃ n ∈ l, put n = []) ∧ numsL l = [] ∨ (∀ n ∈ l, put n ≠ []) ∧ numsL l = l.flatMap put := by
  by_cases h : ∃ n ∈ l, put n = []
  · obtain ⟨n, hn, e⟩ := h
    exact .inl ⟨⟨n, hn, e⟩, by unfold numsL; rw [numsO_none l n hn e]; rfl⟩
  · have h' : ∀ n ∈ l, put n ≠ [] := fun n hn e => h ⟨n, hn, e⟩
    exact .inr ⟨h', by unfold numsL; rw [numsO_all l h']; rfl⟩
/-! ### read where it stands -/
theorem put_len_nat (n : Nat) (h : n < 4611686018427387904) : put (n : Int) ≠ [] := by
  rw [put_nat n h]
  exact putF_ne 8 n
/-! ### cut off -/
end ShCore

/- What wire's printed functions come to, by plain lists of bytes. For every input within the machine's sizes. -/
namespace Go.Proofs.Ytfcombimnmkoeaa.Q
open Go Go.RowKit Go.Proofs.YtfcombimnmkoeaaW.PrintWords Go.Proofs.YtfcombimnmkoeaaW.PrintLast Go.Proofs.YtfcombimnmkoeaaW.PrintMore ShCore

theorem wire_Reader_take.eq (s : ByteArray) (r : Rd) (n b : Int) (hs : s.size < 4611686018427387904) (h : r.ok (lst s)) (hn : n < 9223372036854775808) :
    wire_Reader_take.f s r.a r.e r.f n b = some (arr (rdTake0 (lst s) r n b).1, s, (rdTake0 (lst s) r n b).2.a, (rdTake0 (lst s) r n b).2.e, (rdTake0 (lst s) r n b).2.f) := by
  obtain ⟨a, e, f⟩ := r
  have hl := lst_length s
  obtain ⟨h0, h1⟩ := h
  simp only at h0 h1
  rw [hl] at h1
  have a1 : -9223372036854775808 ≤ (s.size : Int) - a ∧ (s.size : Int) - a < 9223372036854775808 := by omega
  unfold wire_Reader_take.f rdTake0
  rw [wrap64_of a1.1 a1.2]
  simp only [hl]
  by_cases c1 : n < 0
  · rw [if_pos c1, if_pos c1]
    rfl
  · rw [if_neg c1, if_neg c1]
    by_cases c2 : n > (s.size : Int) - a
    · rw [if_pos c2, if_pos c2]
      rfl
    · rw [if_neg c2, if_neg c2]
      have a2 : -9223372036854775808 ≤ a + n ∧ a + n < 9223372036854775808 := by omega
      rw [wrap64_of a2.1 a2.2, if_pos h0, if_pos (by omega), if_pos (by omega)]
      have e1 : s.extract a.toNat (a + n).toNat = arr (((lst s).drop a.toNat).take n.toNat) := by
        apply lst_inj
        rw [lst_extract, lst_arr, show (a + n).toNat - a.toNat = n.toNat by omega]
      rw [e1]
theorem wire_Reader_Take.eq (s : ByteArray) (r : Rd) (n : Int) (hs : s.size < 4611686018427387904) (h : r.ok (lst s)) (hn : n < 9223372036854775808) :
    wire_Reader_Take.f s r.a r.e r.f n = some (arr (rdTake (lst s) r n).1, s, (rdTake (lst s) r n).2.a, (rdTake (lst s) r n).2.e, (rdTake (lst s) r n).2.f) := by
  unfold wire_Reader_Take.f wire_Reader_ok.f rdTake
  simp only [Option.bind_some]
  by_cases c : r.e = 0
  · rw [if_pos (by simpa using c), if_pos c, wire_Reader_take.eq s r n r.a hs h hn]
    rfl
  · rw [if_neg (by simpa using c), if_neg c]
    rfl
theorem bt_zero (c : UInt8) (l : List UInt8) : bt (arr (c :: l)) 0 = c.toNat := by
  obtain ⟨d, hd, hb⟩ := drop_bt (arr (c :: l)) 0 (by rw [size_arr]; simp)
  rw [lst_arr] at hd
  simp at hd
  rw [← hd] at hb
  exact hb
theorem wire_Reader_Byte.eq (s : ByteArray) (r : Rd) (hs : s.size < 4611686018427387904) (h : r.ok (lst s)) :
    wire_Reader_Byte.f s r.a r.e r.f = some ((rdByte (lst s) r).1, s, (rdByte (lst s) r).2.a, (rdByte (lst s) r).2.e, (rdByte (lst s) r).2.f) := by
  unfold wire_Reader_Byte.f rdByte
  rw [wire_Reader_Take.eq s r 1 hs h (by omega)]
  simp only [Option.bind_some, toList_lst, lst_arr]
  generalize rdTake (lst s) r 1 = t
  obtain ⟨l, q⟩ := t
  cases l with
  | nil => rfl
  | cons c l =>
    have hc := u8_lt c
    rw [if_neg (by simp), if_pos (by rw [size_arr]; simp)]
    simp only [bt_zero]
    rw [wrap64_of (by omega) (by omega)]
theorem wire_Reader_Num.ev (s : ByteArray) (r : Rd) (hs : s.size < 4611686018427387904) :
    Ev (fun k => wire_Reader_Num.f k s r.a r.e r.f) ((rdNum (lst s) r).1, s, (rdNum (lst s) r).2.a, (rdNum (lst s) r).2.e, (rdNum (lst s) r).2.f) := by
  unfold wire_Reader_Num.f wire_Reader_ok.f rdNum
  simp only [Option.bind_some]
  by_cases c : r.e = 0
  · rw [if_pos c]
    refine evYes (by simpa using c) ?_
    refine Ev.bind (varint_Take.ev s r.a hs) ?_
    by_cases c2 : (takeL (lst s) r.a).2.2 = 0
    · simp only [if_pos c2]
      exact Ev.now _
    · simp only [if_neg c2]
      exact Ev.now _
  · rw [if_neg c]
    exact evNo (by simpa using c) (Ev.now _)
theorem wire_Reader_Text.ev (s : ByteArray) (r : Rd) (hs : s.size < 4611686018427387904) (h : r.ok (lst s)) :
    Ev (fun k => wire_Reader_Text.f k s r.a r.e r.f) (arr (rdText (lst s) r).1, s, (rdText (lst s) r).2.a, (rdText (lst s) r).2.e, (rdText (lst s) r).2.f) := by
  unfold wire_Reader_Text.f wire_Reader_ok.f rdText
  simp only [Option.bind_some]
  by_cases c : r.e = 0
  · rw [if_pos c]
    refine evYes (by simpa using c) ?_
    refine Ev.bind (wire_Reader_Num.ev s r hs) ?_
    have hn := rdNum_nonneg (lst s) r
    have hk := rdNum_ok h
    generalize rdNum (lst s) r = q at *
    obtain ⟨n, q⟩ := q
    simp only at hn hk ⊢
    by_cases c2 : q.e = 0
    · rw [if_pos c2]
      refine evYes (by simpa using c2) ?_
      simp only [wire_Reader_take.eq s q n r.a hs hk (by omega), Option.bind_some]
      exact Ev.now _
    · rw [if_neg c2]
      exact evNo (by simpa using c2) (Ev.now _)
  · rw [if_neg c]
    exact evNo (by simpa using c) (Ev.now _)
theorem rTake (s : ByteArray) (a e f n : Int) {l : List UInt8} {a' e' f' : Int} (hs : s.size < 4611686018427387904) (h : Rd.ok (lst s) ⟨a, e, f⟩) (hn : n < 9223372036854775808) (hr : rdTake (lst s) ⟨a, e, f⟩ n = (l, ⟨a', e', f'⟩)) : wire_Reader_Take.f s a e f n = some (arr l, s, a', e', f') := by
  have := wire_Reader_Take.eq s ⟨a, e, f⟩ n hs h hn
  rw [hr] at this
  exact this
theorem rByte (s : ByteArray) (a e f : Int) {n : Int} {a' e' f' : Int} (hs : s.size < 4611686018427387904) (h : Rd.ok (lst s) ⟨a, e, f⟩) (hr : rdByte (lst s) ⟨a, e, f⟩ = (n, ⟨a', e', f'⟩)) : wire_Reader_Byte.f s a e f = some (n, s, a', e', f') := by
  have := wire_Reader_Byte.eq s ⟨a, e, f⟩ hs h
  rw [hr] at this
  exact this
theorem rNum (s : ByteArray) (a e f : Int) {n : Int} {a' e' f' : Int} (hs : s.size < 4611686018427387904) (hr : rdNum (lst s) ⟨a, e, f⟩ = (n, ⟨a', e', f'⟩)) : Ev (fun k => wire_Reader_Num.f k s a e f) (n, s, a', e', f') := by
  have := wire_Reader_Num.ev s ⟨a, e, f⟩ hs
  rw [hr] at this
  exact this
theorem rText' (s : ByteArray) (a e f : Int) {l : List UInt8} {a' e' f' : Int} (hs : s.size < 4611686018427387904) (h : Rd.ok (lst s) ⟨a, e, f⟩) (hr : rdText (lst s) ⟨a, e, f⟩ = (l, ⟨a', e', f'⟩)) : Ev (fun k => wire_Reader_Text.f k s a e f) (arr l, s, a', e', f') := by
  have := wire_Reader_Text.ev s ⟨a, e, f⟩ hs h
  rw [hr] at this
  exact this
theorem wire_Text.ev (s : ByteArray) (hs : s.size < 4611686018427387904) : Ev (fun k => wire_Text.f k s) (arr (text (lst s))) := by
  unfold wire_Text.f
  refine Ev.bind (varint_Put.ev (s.size : Int)) ?_
  have h1 := put_len (s.size : Int)
  refine evYes (by rw [size_arr]; omega) ?_
  have e : arr (put (s.size : Int)) ++ s = arr (text (lst s)) := by
    apply lst_inj
    rw [lst_append, lst_arr, lst_arr]
    unfold text
    rw [lst_length]
  rw [e]
  exact Ev.now _
theorem rd_drop {l : List Int} {i : Nat} (h : i < l.length) : l.drop i = rd l i :: l.drop (i + 1) := by
  rw [List.drop_eq_getElem_cons h]
  congr 1
  simp [rd, h]
theorem wire_Nums.l0_ev (l : List Int) (hl : l.length ≤ 1000000000000) (d : Nat) : ∀ (i : Nat) (acc : List UInt8), i + d = l.length → acc.length ≤ 9 * i →
    Ev (fun k => wire_Nums.l0 k l (arr acc) (i : Int)) (arr (((numsO (l.drop i)).map (acc ++ ·)).getD [])) := by
  induction d with
  | zero =>
    intro i acc hi ha
    refine Ev.step (fun k => wire_Nums.l0.eq_2 ..) ?_
    refine evNo (by omega) ?_
    rw [List.drop_eq_nil_of_le (by omega)]
    simp [numsO]
    exact Ev.now _
  | succ d ih =>
    intro i acc hi ha
    refine Ev.step (fun k => wire_Nums.l0.eq_2 ..) ?_
    refine evYes (by omega) (evYes (by omega) ?_)
    refine Ev.bind (varint_Put.ev _) ?_
    rw [rd_drop (show i < l.length by omega)]
    simp only [toList_lst, lst_arr, numsO]
    by_cases c : put (rd l i) = []
    · simp only [if_pos c]
      exact Ev.now _
    · simp only [if_neg c]
      have hp := put_len (rd l i)
      refine evYes (by rw [size_arr, size_arr]; omega) ?_
      have a4 : (i : Int) + 1 = ((i + 1 : Nat) : Int) ∧ (i : Int) + 1 < 9223372036854775808 := by omega
      simp only [arr_append, wrap64_nat' a4.1 a4.2]
      have h2 := ih (i + 1) (acc ++ put (rd l i)) (by omega) (by rw [List.length_append]; omega)
      have e : ((numsO (l.drop (i + 1))).map (put (rd l i) ++ ·)).map (acc ++ ·) = (numsO (l.drop (i + 1))).map ((acc ++ put (rd l i)) ++ ·) := by
        rw [Option.map_map]
        congr 1
        funext x
        simp
      rw [e]
      exact h2
theorem wire_Nums.ev (l : List Int) (hl : l.length ≤ 1000000000000) : Ev (fun k => wire_Nums.f k l) (arr (numsL l)) := by
  have h := wire_Nums.l0_ev l hl l.length 0 [] (by omega) (by simp)
  have e : ((numsO (l.drop 0)).map (([] : List UInt8) ++ ·)).getD [] = numsL l := by
    unfold numsL
    cases h : numsO l <;> simp [h]
  rw [e] at h
  exact h
end Go.Proofs.Ytfcombimnmkoeaa.Q

/- An event's bytes, and the event at the head of any bytes: plain lists alone. -/
namespace Go.Proofs.Ytfcombimnmkoeaa.EvA
open Go Go.RowKit Go.Proofs.Ytfcombimnmkoeaa.Q Go.Proofs.YtfcombimnmkoeaaW.PrintWords Go.Proofs.YtfcombimnmkoeaaW.PrintLast Go.Proofs.YtfcombimnmkoeaaW.PrintMore ShCore

def fitsE (a : Int) : Bool := if a ≥ 0 then decide (a < 4611686018427387904) else false
def expE (a : Int) : Bool := if a ≥ 128 then decide (a < 256) else false
theorem expE_f (a : Int) : kind_Exp.f a = some (expE a) := by
  unfold kind_Exp.f expE
  split <;> rfl
def outE (a : Int) : Bool := !fitsE a
def mayE (a d : Int) (l : List Int) (t : ByteArray) : Bool :=
  if fitsE d = true then (if expE a = true then ((l.length : Int) == 0) else Kind.knownB a && (t.toList == ([] : List UInt8)) && ((l.length : Int) == ((Kind.argsL a).length : Int)) && !l.any outE) else false
abbrev ES := S41
def zE : ES := ⟨0, 0, [], ⟨#[]⟩⟩
theorem fitsE_iff (a : Int) : fitsE a = true ↔ 0 ≤ a ∧ a < 4611686018427387904 := by
  unfold fitsE
  split <;> simp <;> omega
theorem expE_iff (a : Int) : expE a = true ↔ 128 ≤ a ∧ a < 256 := by
  unfold expE
  split <;> simp <;> omega
theorem fits_put (a : Int) : fitsE a = true ↔ put a ≠ [] := by
  rw [fitsE_iff]
  constructor
  · intro h
    obtain ⟨m, rfl⟩ : ∃ m : Nat, a = m := ⟨a.toNat, by omega⟩
    exact put_len_nat m (by omega)
  · intro h
    obtain ⟨m, rfl, hm, _⟩ := put_ok h
    omega
theorem any_outE (l : List Int) : l.any outE = false ↔ ∀ a ∈ l, fitsE a = true := by
  simp only [List.any_eq_false, outE, Bool.not_eq_true', Bool.not_eq_false]
/-! ### numbers, one behind the other -/
def argsD : Nat → List UInt8 → List Int × Nat × Nat
  | 0, _ => ([], 0, 0)
  | n + 1, u => if (tkh u).2.2 = 0 then (if (argsD n (u.drop (tkh u).2.1)).2.2 = 0 then (((tkh u).1 : Int) :: (argsD n (u.drop (tkh u).2.1)).1, (tkh u).2.1 + (argsD n (u.drop (tkh u).2.1)).2.1, 0) else ([], 0, (argsD n (u.drop (tkh u).2.1)).2.2)) else ([], 0, (tkh u).2.2)
theorem tkh_errs (l : List UInt8) : (tkh l).2.2 = 0 ∨ (tkh l).2.2 = 10 ∨ (tkh l).2.2 = 11 := by
  rcases tkh_err l with h | h | h
  · exact .inl h
  · rw [h]; exact .inr (.inl rfl)
  · rw [h]; exact .inr (.inr rfl)
theorem argsD_back : ∀ (n : Nat) (u : List UInt8), (argsD n u).2.2 = 0 → (argsD n u).1.length = n ∧ (∀ a ∈ (argsD n u).1, fitsE a = true) ∧ (argsD n u).1.flatMap put = u.take (argsD n u).2.1 ∧ (argsD n u).2.1 ≤ u.length
  | 0, u, _ => by simp [argsD]
  | n + 1, u, h => by
    unfold argsD at h ⊢
    by_cases h1 : (tkh u).2.2 = 0
    · rw [if_pos h1] at h ⊢
      by_cases h2 : (argsD n (u.drop (tkh u).2.1)).2.2 = 0
      · rw [if_pos h2]
        obtain ⟨b1, b2, b3, b4, b5, b6⟩ := tkh_back u h1
        obtain ⟨i1, i2, i3, i4⟩ := argsD_back n _ h2
        rw [List.length_drop] at i4
        refine ⟨by simp [i1], ?_, ?_, by simp only; omega⟩
        · intro a ha
          rcases List.mem_cons.1 ha with rfl | ha
          · rw [fitsE_iff]; omega
          · exact i2 a ha
        · simp only [List.flatMap_cons, b1, i3]
          rw [List.take_add]
      · rw [if_neg h2] at h
        exact absurd h h2
    · rw [if_neg h1] at h
      exact absurd h h1
theorem argsD_errs : ∀ (n : Nat) (u : List UInt8), (argsD n u).2.2 = 0 ∨ (argsD n u).2.2 = 10 ∨ (argsD n u).2.2 = 11
  | 0, u => .inl rfl
  | n + 1, u => by
    unfold argsD
    by_cases h1 : (tkh u).2.2 = 0
    · rw [if_pos h1]
      by_cases h2 : (argsD n (u.drop (tkh u).2.1)).2.2 = 0
      · rw [if_pos h2]; exact .inl rfl
      · rw [if_neg h2]; exact argsD_errs n _
    · rw [if_neg h1]; exact tkh_errs u
/-! ### a text -/
def textD (u : List UInt8) : List UInt8 × Nat × Nat :=
  if (tkh u).2.2 = 0 then (if (tkh u).1 ≤ (u.drop (tkh u).2.1).length then ((u.drop (tkh u).2.1).take (tkh u).1, (tkh u).2.1 + (tkh u).1, 0) else ([], 0, 10)) else ([], 0, (tkh u).2.2)
theorem textD_back (u : List UInt8) (h : (textD u).2.2 = 0) : (textD u).1.length < 4611686018427387904 ∧ text (textD u).1 = u.take (textD u).2.1 ∧ (textD u).2.1 ≤ u.length := by
  unfold textD at h ⊢
  by_cases h1 : (tkh u).2.2 = 0
  · rw [if_pos h1] at h ⊢
    obtain ⟨b1, b2, b3, b4, b5, b6⟩ := tkh_back u h1
    by_cases h2 : (tkh u).1 ≤ (u.drop (tkh u).2.1).length
    · rw [if_pos h2]
      have e : ((u.drop (tkh u).2.1).take (tkh u).1).length = (tkh u).1 := by rw [List.length_take]; omega
      refine ⟨by simp only [e]; omega, ?_, ?_⟩
      · unfold text
        simp only [e, b1]
        rw [List.take_add]
      · rw [List.length_drop] at h2
        simp only
        omega
    · rw [if_neg h2] at h
      simp at h
  · rw [if_neg h1] at h
    exact absurd h h1
theorem textD_errs (u : List UInt8) : (textD u).2.2 = 0 ∨ (textD u).2.2 = 10 ∨ (textD u).2.2 = 11 := by
  unfold textD
  split
  · split
    · exact .inl rfl
    · exact .inr (.inl rfl)
  · exact tkh_errs u
/-! ### an event -/
def encL (a d : Int) (l : List Int) (t : List UInt8) : List UInt8 := UInt8.ofNat a.toNat :: (put d ++ (if expE a = true then text t else l.flatMap put))
def encE (e : ES) : List UInt8 := if mayE e.f0 e.f1 e.f2 e.f3 = true then encL e.f0 e.f1 e.f2 (lst e.f3) else []
def decC (c : UInt8) (u : List UInt8) : ES × Nat × Nat :=
    if Kind.knownB c.toNat = true ∨ expE c.toNat = true then
      (if (tkh u).2.2 = 0 then
        (if expE c.toNat = true then (if (textD (u.drop (tkh u).2.1)).2.2 = 0 then (⟨c.toNat, (tkh u).1, [], arr (textD (u.drop (tkh u).2.1)).1⟩, 1 + (tkh u).2.1 + (textD (u.drop (tkh u).2.1)).2.1, 0) else (zE, 0, (textD (u.drop (tkh u).2.1)).2.2))
        else (if (argsD (Kind.argsL c.toNat).length (u.drop (tkh u).2.1)).2.2 = 0 then (⟨c.toNat, (tkh u).1, (argsD (Kind.argsL c.toNat).length (u.drop (tkh u).2.1)).1, ⟨#[]⟩⟩, 1 + (tkh u).2.1 + (argsD (Kind.argsL c.toNat).length (u.drop (tkh u).2.1)).2.1, 0) else (zE, 0, (argsD (Kind.argsL c.toNat).length (u.drop (tkh u).2.1)).2.2)))
      else (zE, 0, (tkh u).2.2))
    else (zE, 0, 30)
def decS : List UInt8 → ES × Nat × Nat
  | [] => (zE, 0, 10)
  | c :: u => decC c u
theorem decS_cons (c : UInt8) (u : List UInt8) : decS (c :: u) = decC c u := rfl
/-- What may be. -/
theorem mayE_iff (a d : Int) (l : List Int) (t : ByteArray) : mayE a d l t = true ↔ fitsE d = true ∧ ((expE a = true ∧ l = []) ∨ (expE a = false ∧ Kind.knownB a = true ∧ lst t = [] ∧ l.length = (Kind.argsL a).length ∧ ∀ x ∈ l, fitsE x = true)) := by
  unfold mayE
  by_cases hd : fitsE d = true
  · rw [if_pos hd]
    by_cases hx : expE a = true
    · rw [if_pos hx]
      simp only [hd, hx, true_and, beq_iff_eq, Bool.true_eq_false, false_and, or_false]
      rw [← List.length_eq_zero_iff]
      omega
    · have hx' : expE a = false := by simpa using hx
      rw [if_neg hx]
      simp only [hd, hx', true_and, Bool.and_eq_true, beq_iff_eq, Bool.not_eq_true', any_outE, Bool.false_eq_true, false_and, false_or, toList_lst]
      constructor
      · rintro ⟨⟨⟨h1, h2⟩, h3⟩, h4⟩
        exact ⟨h1, h2, by omega, h4⟩
      · rintro ⟨h1, h2, h3, h4⟩
        exact ⟨⟨⟨h1, h2⟩, by omega⟩, h4⟩
  · rw [if_neg hd]
    simp [hd]
theorem decS_back (u : List UInt8) (h : (decS u).2.2 = 0) : mayE (decS u).1.f0 (decS u).1.f1 (decS u).1.f2 (decS u).1.f3 = true ∧ encE (decS u).1 = u.take (decS u).2.1 ∧ (decS u).2.1 ≤ u.length ∧ 1 ≤ (decS u).2.1 ∧ (decS u).1.f3.size < 4611686018427387904 := by
  suffices h' : mayE (decS u).1.f0 (decS u).1.f1 (decS u).1.f2 (decS u).1.f3 = true ∧ encL (decS u).1.f0 (decS u).1.f1 (decS u).1.f2 (lst (decS u).1.f3) = u.take (decS u).2.1 ∧ (decS u).2.1 ≤ u.length ∧ 1 ≤ (decS u).2.1 ∧ (decS u).1.f3.size < 4611686018427387904 by
    refine ⟨h'.1, ?_, h'.2.2⟩
    unfold encE
    rw [if_pos h'.1]
    exact h'.2.1
  cases u with
  | nil => simp [decS] at h
  | cons c u =>
    rw [decS_cons] at h ⊢
    unfold decC at h ⊢
    by_cases hk : Kind.knownB c.toNat = true ∨ expE c.toNat = true
    · rw [if_pos hk] at h ⊢
      by_cases h1 : (tkh u).2.2 = 0
      · rw [if_pos h1] at h ⊢
        obtain ⟨b1, b2, b3, b4, b5, b6⟩ := tkh_back u h1
        have hf : fitsE ((tkh u).1 : Int) = true := (fitsE_iff _).2 (by omega)
        have hcc : UInt8.ofNat ((c.toNat : Int)).toNat = c := by simp
        by_cases hx : expE c.toNat = true
        · rw [if_pos hx] at h ⊢
          by_cases h2 : (textD (u.drop (tkh u).2.1)).2.2 = 0
          · rw [if_pos h2]
            obtain ⟨t1, t2, t3⟩ := textD_back _ h2
            rw [List.length_drop] at t3
            refine ⟨(mayE_iff ..).2 ⟨hf, .inl ⟨hx, rfl⟩⟩, ?_, by simp only [List.length_cons]; omega, by simp only; omega, by simp only [size_arr]; exact t1⟩
            simp only [encL, hcc, hx, if_true, lst_arr, b1, t2]
            rw [show 1 + (tkh u).2.1 + (textD (u.drop (tkh u).2.1)).2.1 = ((tkh u).2.1 + (textD (u.drop (tkh u).2.1)).2.1) + 1 by omega, List.take_succ_cons, List.take_add]
          · rw [if_neg h2] at h
            exact absurd h h2
        · have hx' : expE c.toNat = false := by simpa using hx
          rw [if_neg hx] at h ⊢
          by_cases h2 : (argsD (Kind.argsL c.toNat).length (u.drop (tkh u).2.1)).2.2 = 0
          · rw [if_pos h2]
            obtain ⟨t0, t1, t2, t3⟩ := argsD_back _ _ h2
            rw [List.length_drop] at t3
            refine ⟨(mayE_iff ..).2 ⟨hf, .inr ⟨hx', hk.resolve_right hx, rfl, t0, t1⟩⟩, ?_, by simp only [List.length_cons]; omega, by simp only; omega, by show (0 : Nat) < _; omega⟩
            simp only [encL, hcc, hx', Bool.false_eq_true, if_false, b1, t2]
            rw [show 1 + (tkh u).2.1 + (argsD (Kind.argsL c.toNat).length (u.drop (tkh u).2.1)).2.1 = ((tkh u).2.1 + (argsD (Kind.argsL c.toNat).length (u.drop (tkh u).2.1)).2.1) + 1 by omega, List.take_succ_cons, List.take_add]
          · rw [if_neg h2] at h
            exact absurd h h2
      · rw [if_neg h1] at h
        exact absurd h h1
    · rw [if_neg hk] at h
      simp at h
end Go.Proofs.Ytfcombimnmkoeaa.EvA

/- What the program's event functions come to, by plain lists of bytes. For every input within the machine's sizes. -/
set_option linter.unusedVariables false
set_option linter.unusedSimpArgs false
namespace Go.Proofs.Ytfcombimnmkoeaa.EvB
open Go Go.RowKit Go.Proofs.Ytfcombimnmkoeaa.Q Go.Proofs.YtfcombimnmkoeaaW.PrintWords Go.Proofs.YtfcombimnmkoeaaW.PrintLast Go.Proofs.YtfcombimnmkoeaaW.PrintMore ShCore EvA

theorem wf_small {a : Int} (h0 : -9223372036854775808 ≤ a) (h1 : a ≤ 9223372036854775807) : (Lit.int .i64 a).wf = true := by
  simp only [Lit.wf, decide_eq_true_eq, Bool.and_eq_true]
  exact ⟨h0, h1⟩
theorem wf_byte (c : UInt8) : (Lit.int .i64 (c.toNat : Int)).wf = true := by
  have := u8_lt c
  exact wf_small (by omega) (by omega)
theorem known_f {a : Int} (h : (Lit.int .i64 a).wf = true) : kind_Known.f a = some (Kind.knownB a) := by unfold kind_Known.f; rw [if_pos h]
theorem args_f {a : Int} (h : (Lit.int .i64 a).wf = true) : kind_Args.f a = some (Kind.argsL a) := by unfold kind_Args.f; rw [if_pos h]
/-! ### the bytes -/
theorem size_append' (a b : ByteArray) : (a ++ b).size = a.size + b.size := by rw [← lst_length, lst_append, List.length_append, lst_length, lst_length]
theorem numsL_fit {l : List Int} (h : ∀ a ∈ l, fitsE a = true) : numsL l = l.flatMap put := by
  rcases numsL_cases l with ⟨⟨n, hn, hp⟩, _⟩ | ⟨_, h2⟩
  · exact absurd hp ((fits_put n).1 (h n hn))
  · exact h2
theorem nums_size (l : List Int) : (numsL l).length ≤ 9 * l.length := by
  unfold numsL
  cases h : numsO l with
  | none => simp
  | some b => exact nums_len l b h
/-! ### reading -/
theorem takeL_pos (s : List UInt8) (q : Nat) (hq : q ≤ s.length) : takeL s (q : Int) = if (tkh (s.drop q)).2.2 = 0 then (((tkh (s.drop q)).1 : Int), ((q + (tkh (s.drop q)).2.1 : Nat) : Int), 0) else (0, 0, (((tkh (s.drop q)).2.2 : Nat) : Int)) := by
  unfold takeL
  rw [if_neg (by omega)]
  simp only [Int.toNat_natCast, Int.natCast_add]
theorem rdNum_pos (s : List UInt8) (q : Nat) (hq : q ≤ s.length) (f : Int) : rdNum s ⟨q, 0, f⟩ = if (tkh (s.drop q)).2.2 = 0 then (((tkh (s.drop q)).1 : Int), ⟨((q + (tkh (s.drop q)).2.1 : Nat) : Int), 0, f⟩) else (0, ⟨q, (((tkh (s.drop q)).2.2 : Nat) : Int), q⟩) := by
  unfold rdNum
  simp only [if_true, takeL_pos s q hq]
  by_cases h : (tkh (s.drop q)).2.2 = 0
  · simp [h]
  · simp [h]
theorem rdText_pos (s : List UInt8) (q : Nat) (hq : q ≤ s.length) (f : Int) : rdText s ⟨q, 0, f⟩ = if (textD (s.drop q)).2.2 = 0 then ((textD (s.drop q)).1, ⟨((q + (textD (s.drop q)).2.1 : Nat) : Int), 0, f⟩) else ([], ⟨q, (((textD (s.drop q)).2.2 : Nat) : Int), q⟩) := by
  unfold rdText
  simp only [if_true]
  rw [rdNum_pos s q hq f]
  unfold textD
  by_cases h : (tkh (s.drop q)).2.2 = 0
  · obtain ⟨b1, b2, b3, b4, b5, b6⟩ := tkh_back _ h
    rw [List.length_drop] at b4
    rw [if_pos h, if_pos h]
    simp only [if_true]
    unfold rdTake0
    rw [if_neg (by omega), List.drop_drop, List.length_drop]
    by_cases h2 : (tkh (s.drop q)).1 ≤ s.length - (q + (tkh (s.drop q)).2.1)
    · rw [if_neg (by simp only; omega), if_pos h2]
      simp only [Int.toNat_natCast, Prod.mk.injEq, true_and, Rd.mk.injEq, and_true, if_true]
      omega
    · rw [if_pos (by simp only; omega), if_neg h2]
      simp
  · rw [if_neg h, if_neg h]
    simp [h]
theorem read_stuck (u : ByteArray) (hu : u.size < 4611686018427387904) (a e f : Int) (he : e ≠ 0) (kd dt : Int) (tx : ByteArray) (n : Nat) (hn : n ≤ 1000) : ∀ (d i : Nat) (acc : List Int), i + d = n → acc.length ≤ i →
    ∃ l, Ev (fun k => event_read.l0 k (n : Int) (i : Int) u a e f kd dt acc tx) (kd, dt, l, tx, true, u, a, e, f)
  | 0, i, acc, hi, hl => by
    refine ⟨acc, Ev.step (fun k => event_read.l0.eq_2 ..) ?_⟩
    exact evNo (by omega) (Ev.now _)
  | d + 1, i, acc, hi, hl => by
    obtain ⟨l, ih⟩ := read_stuck u hu a e f he kd dt tx n hn d (i + 1) (acc ++ [0]) (by omega) (by simp; omega)
    refine ⟨l, Ev.step (fun k => event_read.l0.eq_2 ..) ?_⟩
    refine evYes (by omega) ?_
    refine Ev.bind (rNum u a e f hu (n := 0) (a' := a) (e' := e) (f' := f) (by unfold rdNum; rw [if_neg he])) ?_
    refine evYes (by omega) ?_
    have e1 : wrap64 ((i : Int) + 1) = ((i + 1 : Nat) : Int) := by rw [wrap64_of (by omega) (by omega)]; omega
    simp only [e1]
    exact ih
theorem read_args (u : ByteArray) (hu : u.size < 4611686018427387904) (f kd dt : Int) (tx : ByteArray) (n : Nat) (hn : n ≤ 1000) : ∀ (d i q : Nat) (acc : List Int), i + d = n → acc.length ≤ i → q ≤ (lst u).length →
    ∃ l a' f', Ev (fun k => event_read.l0 k (n : Int) (i : Int) u q 0 f kd dt acc tx) (kd, dt, l, tx, true, u, a', (((argsD d ((lst u).drop q)).2.2 : Nat) : Int), f') ∧
      ((argsD d ((lst u).drop q)).2.2 = 0 → l = acc ++ (argsD d ((lst u).drop q)).1 ∧ a' = ((q + (argsD d ((lst u).drop q)).2.1 : Nat) : Int))
  | 0, i, q, acc, hi, hl, hq => by
    refine ⟨acc, q, f, Ev.step (fun k => event_read.l0.eq_2 ..) ?_, fun _ => by simp [argsD]⟩
    exact evNo (by omega) (Ev.now _)
  | d + 1, i, q, acc, hi, hl, hq => by
    have e1 : wrap64 ((i : Int) + 1) = ((i + 1 : Nat) : Int) := by rw [wrap64_of (by omega) (by omega)]; omega
    have hr := rdNum_pos (lst u) q hq f
    unfold argsD
    by_cases h : (tkh ((lst u).drop q)).2.2 = 0
    · rw [if_pos h] at hr
      obtain ⟨b1, b2, b3, b4, b5, b6⟩ := tkh_back _ h
      rw [List.length_drop] at b4
      obtain ⟨l, a', f', ih, hh⟩ := read_args u hu f kd dt tx n hn d (i + 1) (q + (tkh ((lst u).drop q)).2.1) (acc ++ [((tkh ((lst u).drop q)).1 : Int)]) (by omega) (by simp; omega) (by omega)
      rw [← List.drop_drop] at ih hh
      rw [if_pos h]
      have hev : Ev (fun k => event_read.l0 k (n : Int) (i : Int) u q 0 f kd dt acc tx) (kd, dt, l, tx, true, u, a', (((argsD d (((lst u).drop q).drop (tkh ((lst u).drop q)).2.1)).2.2 : Nat) : Int), f') := by
        refine Ev.step (fun k => event_read.l0.eq_2 ..) ?_
        refine evYes (by omega) ?_
        refine Ev.bind (rNum u q 0 f hu hr) ?_
        refine evYes (by omega) ?_
        simp only [e1]
        exact ih
      by_cases h2 : (argsD d (((lst u).drop q).drop (tkh ((lst u).drop q)).2.1)).2.2 = 0
      · rw [if_pos h2]
        rw [h2] at hev
        refine ⟨l, a', f', hev, fun _ => ?_⟩
        obtain ⟨h3, h4⟩ := hh h2
        refine ⟨by rw [h3]; simp, by rw [h4]; simp only; omega⟩
      · rw [if_neg h2]
        exact ⟨l, a', f', hev, fun h3 => absurd h3 h2⟩
    · rw [if_neg h] at hr
      rw [if_neg h]
      obtain ⟨l, ih⟩ := read_stuck u hu q (((tkh ((lst u).drop q)).2.2 : Nat) : Int) q (by omega) kd dt tx n hn d (i + 1) (acc ++ [0]) (by omega) (by simp; omega)
      refine ⟨l, q, q, ?_, fun h3 => absurd h3 h⟩
      refine Ev.step (fun k => event_read.l0.eq_2 ..) ?_
      refine evYes (by omega) ?_
      refine Ev.bind (rNum u q 0 f hu hr) ?_
      refine evYes (by omega) ?_
      simp only [e1]
      exact ih
/-- What is read, and where the reader stands then. -/
structure ReadAt (u : ByteArray) (q : Int × Int × List Int × ByteArray × Bool × ByteArray × Int × Int × Int) : Prop where
  same : q.2.2.2.2.2.1 = u
  unknown : (decS (lst u)).2.2 = 30 → q.2.2.2.2.1 = false
  known : (decS (lst u)).2.2 ≠ 30 → q.2.2.2.2.1 = true ∧ q.2.2.2.2.2.2.2.1 = (((decS (lst u)).2.2 : Nat) : Int)
  here : (decS (lst u)).2.2 = 0 → (⟨q.1, q.2.1, q.2.2.1, q.2.2.2.1⟩ : ES) = (decS (lst u)).1 ∧ q.2.2.2.2.2.2.1 = (((decS (lst u)).2.1 : Nat) : Int)
theorem rdByte_head (c : UInt8) (l : List UInt8) : rdByte (c :: l) ⟨0, 0, 0⟩ = ((c.toNat : Int), ⟨1, 0, 0⟩) := by
  unfold rdByte rdTake rdTake0
  simp
  rw [if_neg (by omega)]
theorem read_j0 (u : ByteArray) (hu : u.size < 4611686018427387904) (c : UInt8) (l : List UInt8) (hc : lst u = c :: l) (hk : Kind.knownB c.toNat = true ∨ expE c.toNat = true) :
    ∃ q, Ev (fun k => event_read.j0 k false u 1 0 0 c.toNat 0 ⟨#[]⟩) q ∧ ReadAt u q := by
  have hlen : (lst u).length = l.length + 1 := by rw [hc]; rfl
  have hd1 : (lst u).drop 1 = l := by rw [hc]; rfl
  have hn := rdNum_pos (lst u) 1 (by omega) 0
  rw [hd1] at hn
  have hS : decS (lst u) = decC c l := by rw [hc]; rfl
  by_cases h : (tkh l).2.2 = 0
  · rw [if_pos h] at hn
    obtain ⟨b1, b2, b3, b4, b5, b6⟩ := tkh_back _ h
    have hd2 : (lst u).drop (1 + (tkh l).2.1) = l.drop (tkh l).2.1 := by rw [← List.drop_drop, hd1]
    by_cases hx : expE c.toNat = true
    · have ht := rdText_pos (lst u) (1 + (tkh l).2.1) (by omega) 0
      rw [hd2] at ht
      by_cases h2 : (textD (l.drop (tkh l).2.1)).2.2 = 0
      · rw [if_pos h2] at ht
        refine ⟨((c.toNat : Int), ((tkh l).1 : Int), [], arr (textD (l.drop (tkh l).2.1)).1, true, u, ((1 + (tkh l).2.1 + (textD (l.drop (tkh l).2.1)).2.1 : Nat) : Int), 0, 0), Ev.step (fun k => event_read.j0.eq_2 ..) (evNo (by simp) (Ev.bind (rNum u 1 0 0 hu hn) ?_)), ?_⟩
        · simp only [expE_f, Option.bind_some]
          refine evYes hx (Ev.bind (rText' u _ 0 0 hu ⟨by simp only; omega, by simp only; omega⟩ ht) (Ev.now _))
        · have e0 : decC c l = (⟨c.toNat, (tkh l).1, [], arr (textD (l.drop (tkh l).2.1)).1⟩, 1 + (tkh l).2.1 + (textD (l.drop (tkh l).2.1)).2.1, 0) := by
            unfold decC
            rw [if_pos hk, if_pos h, if_pos hx, if_pos h2]
          exact ⟨rfl, fun h3 => by rw [hS, e0] at h3; simp at h3, fun _ => ⟨rfl, by rw [hS, e0]; rfl⟩, fun _ => ⟨by rw [hS, e0], by rw [hS, e0]⟩⟩
      · rw [if_neg h2] at ht
        refine ⟨((c.toNat : Int), ((tkh l).1 : Int), [], arr [], true, u, ((1 + (tkh l).2.1 : Nat) : Int), (((textD (l.drop (tkh l).2.1)).2.2 : Nat) : Int), ((1 + (tkh l).2.1 : Nat) : Int)), Ev.step (fun k => event_read.j0.eq_2 ..) (evNo (by simp) (Ev.bind (rNum u 1 0 0 hu hn) ?_)), ?_⟩
        · simp only [expE_f, Option.bind_some]
          refine evYes hx (Ev.bind (rText' u _ 0 0 hu ⟨by simp only; omega, by simp only; omega⟩ ht) (Ev.now _))
        · have e0 : decC c l = (zE, 0, (textD (l.drop (tkh l).2.1)).2.2) := by
            unfold decC
            rw [if_pos hk, if_pos h, if_pos hx, if_neg h2]
          have h30 : (textD (l.drop (tkh l).2.1)).2.2 ≠ 30 := by have := textD_errs (l.drop (tkh l).2.1); omega
          exact ⟨rfl, fun h3 => by rw [hS, e0] at h3; exact absurd h3 h30, fun _ => ⟨rfl, by rw [hS, e0]⟩, fun h3 => by rw [hS, e0] at h3; exact absurd h3 h2⟩
    · have hx' : expE c.toNat = false := by simpa using hx
      have ha3 := Kind.argsL_length c.toNat
      obtain ⟨al, a', f', hev, hh⟩ := read_args u hu 0 c.toNat (tkh l).1 ⟨#[]⟩ (Kind.argsL c.toNat).length (by omega) (Kind.argsL c.toNat).length 0 (1 + (tkh l).2.1) [] (by omega) (by simp) (by omega)
      rw [hd2] at hev hh
      refine ⟨((c.toNat : Int), ((tkh l).1 : Int), al, ⟨#[]⟩, true, u, a', (((argsD (Kind.argsL c.toNat).length (l.drop (tkh l).2.1)).2.2 : Nat) : Int), f'), Ev.step (fun k => event_read.j0.eq_2 ..) (evNo (by simp) (Ev.bind (rNum u 1 0 0 hu hn) ?_)), ?_⟩
      · simp only [expE_f, args_f (wf_byte c), Option.bind_some]
        exact evNo hx hev
      · by_cases h2 : (argsD (Kind.argsL c.toNat).length (l.drop (tkh l).2.1)).2.2 = 0
        · have e0 : decC c l = (⟨c.toNat, (tkh l).1, (argsD (Kind.argsL c.toNat).length (l.drop (tkh l).2.1)).1, ⟨#[]⟩⟩, 1 + (tkh l).2.1 + (argsD (Kind.argsL c.toNat).length (l.drop (tkh l).2.1)).2.1, 0) := by
            unfold decC
            rw [if_pos hk, if_pos h, if_neg hx, if_pos h2]
          obtain ⟨h3, h4⟩ := hh h2
          refine ⟨rfl, fun h3 => by rw [hS, e0] at h3; simp at h3, fun _ => ⟨rfl, by rw [hS, e0, h2]⟩, fun _ => ⟨?_, ?_⟩⟩
          · rw [hS, e0]
            simp only [h3, List.nil_append]
          · rw [hS, e0]
            exact h4
        · have e0 : decC c l = (zE, 0, (argsD (Kind.argsL c.toNat).length (l.drop (tkh l).2.1)).2.2) := by
            unfold decC
            rw [if_pos hk, if_pos h, if_neg hx, if_neg h2]
          have h30 : (argsD (Kind.argsL c.toNat).length (l.drop (tkh l).2.1)).2.2 ≠ 30 := by have := argsD_errs (Kind.argsL c.toNat).length (l.drop (tkh l).2.1); omega
          exact ⟨rfl, fun h3 => by rw [hS, e0] at h3; exact absurd h3 h30, fun _ => ⟨rfl, by rw [hS, e0]⟩, fun h3 => by rw [hS, e0] at h3; exact absurd h3 h2⟩
  · rw [if_neg h] at hn
    have he0 : (((tkh l).2.2 : Nat) : Int) ≠ 0 := by omega
    have e0 : decC c l = (zE, 0, (tkh l).2.2) := by
      unfold decC
      rw [if_pos hk, if_neg h]
    have h30 : (tkh l).2.2 ≠ 30 := by have := tkh_errs l; omega
    have fin : ∀ q : Int × Int × List Int × ByteArray × Bool × ByteArray × Int × Int × Int, q.2.2.2.2.2.1 = u → q.2.2.2.2.1 = true → q.2.2.2.2.2.2.2.1 = (((tkh l).2.2 : Nat) : Int) → ReadAt u q := fun q h1 h2 h4 =>
      ⟨h1, fun h3 => by rw [hS, e0] at h3; exact absurd h3 h30, fun _ => ⟨h2, by rw [hS, e0]; exact h4⟩, fun h3 => by rw [hS, e0] at h3; exact absurd h3 h⟩
    by_cases hx : expE c.toNat = true
    · refine ⟨((c.toNat : Int), 0, [], arr [], true, u, ((1 : Nat) : Int), (((tkh l).2.2 : Nat) : Int), ((1 : Nat) : Int)), Ev.step (fun k => event_read.j0.eq_2 ..) (evNo (by simp) (Ev.bind (rNum u 1 0 0 hu hn) ?_)), ?_⟩
      · simp only [expE_f, Option.bind_some]
        refine evYes hx (Ev.bind (rText' u _ _ _ hu (l := []) (a' := ((1 : Nat) : Int)) (e' := (((tkh l).2.2 : Nat) : Int)) (f' := ((1 : Nat) : Int)) ⟨by simp only; omega, by simp only; omega⟩ ?_) (Ev.now _))
        unfold rdText
        rw [if_neg he0]
      · exact fin _ rfl rfl rfl
    · have ha3 := Kind.argsL_length c.toNat
      obtain ⟨al, hev⟩ := read_stuck u hu ((1 : Nat) : Int) (((tkh l).2.2 : Nat) : Int) ((1 : Nat) : Int) he0 c.toNat 0 ⟨#[]⟩ (Kind.argsL c.toNat).length (by omega) (Kind.argsL c.toNat).length 0 [] (by omega) (by simp)
      refine ⟨((c.toNat : Int), 0, al, ⟨#[]⟩, true, u, ((1 : Nat) : Int), (((tkh l).2.2 : Nat) : Int), ((1 : Nat) : Int)), Ev.step (fun k => event_read.j0.eq_2 ..) (evNo (by simp) (Ev.bind (rNum u 1 0 0 hu hn) ?_)), ?_⟩
      · simp only [expE_f, args_f (wf_byte c), Option.bind_some]
        exact evNo hx hev
      · exact fin _ rfl rfl rfl
theorem read_ev (u : ByteArray) (hu : u.size < 4611686018427387904) : ∃ q, Ev (fun k => event_read.f k u 0 0 0) q ∧ ReadAt u q := by
  cases hc : lst u with
  | nil =>
    have hz : ((Kind.argsL 0).length : Int) = ((0 : Nat) : Int) := rfl
    obtain ⟨al, hev⟩ := read_stuck u hu 0 10 0 (by omega) 0 0 ⟨#[]⟩ 0 (by omega) 0 0 [] (by omega) (by simp)
    refine ⟨(0, 0, al, ⟨#[]⟩, true, u, 0, 10, 0), ?_, ⟨rfl, fun h => by rw [hc] at h; simp [decS] at h, fun _ => ⟨rfl, by rw [hc]; rfl⟩, fun h => by rw [hc] at h; simp [decS] at h⟩⟩
    unfold event_read.f
    have hb := rByte u 0 0 0 hu ⟨by simp, by simp⟩ (n := 0) (a' := 0) (e' := 10) (f' := 0) (by rw [hc]; rfl)
    rw [hb]
    simp only [Option.bind_some, wire_Reader_Err.f]
    refine evNo (by omega) ?_
    refine Ev.step (fun k => event_read.j0.eq_2 ..) (evNo (by simp) ?_)
    refine Ev.bind (rNum u 0 10 0 hu (n := 0) (a' := 0) (e' := 10) (f' := 0) (by unfold rdNum; rw [if_neg (by simp)])) ?_
    simp only [expE_f, args_f (wf_small (a := 0) (by omega) (by omega)), Option.bind_some]
    refine evNo (by rw [expE_iff]; omega) ?_
    rw [hz]
    exact hev
  | cons c l =>
    have hb := rByte u 0 0 0 hu ⟨by simp, by simp⟩ (n := (c.toNat : Int)) (a' := 1) (e' := 0) (f' := 0) (by rw [hc]; exact rdByte_head c l)
    have ef : (fun k => event_read.f k u 0 0 0) = fun k => if Kind.knownB c.toNat = true then event_read.j0 k false u 1 0 0 c.toNat 0 ⟨#[]⟩ else event_read.j0 k (!expE c.toNat) u 1 0 0 c.toNat 0 ⟨#[]⟩ := by
      funext k
      unfold event_read.f
      rw [hb]
      simp only [Option.bind_some, wire_Reader_Err.f, if_true, known_f (wf_byte c), expE_f]
    rw [ef]
    by_cases hk : Kind.knownB c.toNat = true
    · obtain ⟨q, h1, h2⟩ := read_j0 u hu c l hc (.inl hk)
      exact ⟨q, evYes hk h1, h2⟩
    · by_cases hx : expE c.toNat = true
      · obtain ⟨q, h1, h2⟩ := read_j0 u hu c l hc (.inr hx)
        refine ⟨q, evNo hk ?_, h2⟩
        rw [hx]
        exact h1
      · have hx' : expE c.toNat = false := by simpa using hx
        have e0 : decS (lst u) = (zE, 0, 30) := by
          rw [hc, decS_cons]
          unfold decC
          rw [if_neg (fun h => h.elim hk hx)]
        refine ⟨((c.toNat : Int), 0, [], ⟨#[]⟩, false, u, 1, 0, 0), evNo hk ?_, ⟨rfl, fun _ => rfl, fun h => by rw [e0] at h; simp at h, fun h => by rw [e0] at h; simp at h⟩⟩
        rw [hx']
        exact Ev.step (fun k => event_read.j0.eq_2 ..) (evYes rfl (Ev.now _))
/-- The event at a place of any bytes, as it is told. -/
def decT (s : List UInt8) (p : Int) : Int × Int × List Int × ByteArray × Int × Int :=
  if p < 0 ∨ p > s.length then (0, 0, [], ⟨#[]⟩, 0, 1) else
    if (decS (s.drop p.toNat)).2.2 = 0 then ((decS (s.drop p.toNat)).1.f0, (decS (s.drop p.toNat)).1.f1, (decS (s.drop p.toNat)).1.f2, (decS (s.drop p.toNat)).1.f3, p + (decS (s.drop p.toNat)).2.1, 0)
    else (0, 0, [], ⟨#[]⟩, 0, ((decS (s.drop p.toNat)).2.2 : Nat))
theorem Decode.ev (s : ByteArray) (p : Int) (hs : s.size < 4611686018427387904) : Ev (fun k => event_Decode.f k s p) (decT (lst s) p) := by
  unfold event_Decode.f decT
  have hl := lst_length s
  by_cases c1 : p < 0
  · refine evYes c1 ?_
    rw [if_pos (.inl c1)]
    exact Ev.step (fun k => event_Decode.j0.eq_2 ..) (evYes rfl (Ev.now _))
  · refine evNo c1 ?_
    by_cases c2 : p > (s.size : Int)
    · rw [decide_eq_true c2, if_pos (.inr (by rw [hl]; exact c2))]
      exact Ev.step (fun k => event_Decode.j0.eq_2 ..) (evYes rfl (Ev.now _))
    · rw [decide_eq_false c2, if_neg (by rw [hl]; omega)]
      refine Ev.step (fun k => event_Decode.j0.eq_2 ..) (evNo (by simp) (evYes (by omega) (evYes (by omega) ?_)))
      have eu : lst (s.extract p.toNat s.size) = (lst s).drop p.toNat := by
        rw [lst_extract, List.take_of_length_le]
        rw [List.length_drop, hl]
        omega
      have hu : (s.extract p.toNat s.size).size < 4611686018427387904 := by
        rw [← lst_length, eu, List.length_drop, hl]
        omega
      obtain ⟨⟨kd, dt, al, tx, kn, u', a, e, f⟩, hev, hR⟩ := read_ev _ hu
      refine Ev.bind (evC (show wire_New.f _ = some (s.extract p.toNat s.size, 0, 0, 0) from rfl)) ?_
      refine Ev.bind hev ?_
      refine Ev.bind (evC (show wire_Reader_Err.f u' a e f = some (e, f, u', a, e, f) from rfl)) ?_
      obtain ⟨r1, r2, r3, r4⟩ := hR
      rw [eu] at r2 r3 r4
      simp only at r1 r2 r3 r4
      by_cases h30 : (decS ((lst s).drop p.toNat)).2.2 = 30
      · have hne : ¬ (decS ((lst s).drop p.toNat)).2.2 = 0 := by omega
        rw [if_neg hne, h30]
        obtain rfl := r2 h30
        exact evNo (by simp) (Ev.now _)
      · obtain ⟨hk, he⟩ := r3 h30
        subst hk
        subst he
        refine evYes rfl ?_
        by_cases h0 : (decS ((lst s).drop p.toNat)).2.2 = 0
        · obtain ⟨h4, h5⟩ := r4 h0
          subst h5
          rw [if_pos h0, ← h4]
          have hb := (decS_back _ h0).2.2.1
          rw [List.length_drop, hl] at hb
          refine evYes (by omega) ?_
          refine Ev.bind (evC (show wire_Reader_At.f u' _ _ f = some (_, u', _, _, f) from rfl)) ?_
          have e1 : wrap64 (p + (((decS ((lst s).drop p.toNat)).2.1 : Nat) : Int)) = p + (((decS ((lst s).drop p.toNat)).2.1 : Nat) : Int) := wrap64_of (by omega) (by omega)
          refine evC ?_
          rw [e1]
        · rw [if_neg h0]
          exact evNo (by omega) (Ev.now _)
end Go.Proofs.Ytfcombimnmkoeaa.EvB

/- Events held against each other, short events, the calls that the document fixes. For every input. -/

set_option linter.unusedVariables false
set_option linter.unusedSimpArgs false
namespace Go.Proofs.Ytfcombimnmkoeaa.EvC
open Go Go.RowKit Go.Proofs.Ytfcombimnmkoeaa.Q Go.Proofs.YtfcombimnmkoeaaW.PrintWords Go.Proofs.YtfcombimnmkoeaaW.PrintLast Go.Proofs.YtfcombimnmkoeaaW.PrintMore ShCore EvA EvB

theorem rdE {l : List ES} {i : Nat} (h : i < l.length) : rd_T41 l (i : Int) = l[i] := by
  unfold rd_T41
  rw [Int.toNat_natCast, List.getD_eq_getElem?_getD, List.getElem?_eq_getElem h]
  rfl
theorem nxt {i : Nat} (h : i < 9223372036854775807) : wrap64 ((i : Int) + 1) = ((i + 1 : Nat) : Int) := by rw [wrap64_of (by omega) (by omega)]; omega
theorem rdI {l : List Int} {i : Nat} (h : i < l.length) : rd l (i : Int) = l[i] := by
  unfold rd
  rw [Int.toNat_natCast, List.getD_eq_getElem?_getD, List.getElem?_eq_getElem h]
  rfl
theorem es_ext {a b : ES} (h0 : a.f0 = b.f0) (h1 : a.f1 = b.f1) (h2 : a.f2 = b.f2) (h3 : lst a.f3 = lst b.f3) : a = b := by
  cases a
  cases b
  simp only at h0 h1 h2 h3
  rw [h0, h1, h2, lst_inj h3]
/-! ### told back -/
end Go.Proofs.Ytfcombimnmkoeaa.EvC

/- Lists of numbers, and events, held against each other. For every input. -/
set_option linter.unusedVariables false
set_option linter.unusedSimpArgs false
namespace Go.Proofs.Ytfcombimnmkoeaa.EvD
open Go Go.RowKit Go.Proofs.Ytfcombimnmkoeaa.Q Go.Proofs.YtfcombimnmkoeaaW.PrintWords Go.Proofs.YtfcombimnmkoeaaW.PrintLast Go.Proofs.YtfcombimnmkoeaaW.PrintMore ShCore EvA EvB EvC
theorem Ints.l0 (l m : List Int) (hm : l.length = m.length) (hl : l.length ≤ 9223372036854775807) : ∀ (d i : Nat), i + d = l.length → Ev (fun k => shuttlecockref01_Ints.l0 k l m i) (decide (l.drop i = m.drop i))
  | 0, i, hi => by
    refine Ev.step (fun k => shuttlecockref01_Ints.l0.eq_2 ..) (evNo (by omega) (evC ?_))
    rw [List.drop_eq_nil_of_le (by omega), List.drop_eq_nil_of_le (by omega)]
    rfl
  | d + 1, i, hi => by
    have h : i < l.length := by omega
    have h' : i < m.length := by omega
    have ih := Ints.l0 l m hm hl d (i + 1) (by omega)
    refine Ev.step (fun k => shuttlecockref01_Ints.l0.eq_2 ..) (evYes (by omega) (evYes (by omega) (evYes (by omega) ?_)))
    rw [List.drop_eq_getElem_cons h, List.drop_eq_getElem_cons h', rdI h, rdI h', nxt (by omega)]
    by_cases c : l[i] = m[i]
    · refine evYes c ?_
      simp only [c, List.cons.injEq, true_and]
      exact ih
    · refine evNo c (evC ?_)
      rw [decide_eq_false]
      intro e
      exact c (List.cons.inj e).1
theorem Ints.ev (l m : List Int) (hl : l.length ≤ 9223372036854775807) : Ev (fun k => shuttlecockref01_Ints.f k l m) (decide (l = m)) := by
  unfold shuttlecockref01_Ints.f
  by_cases c : (l.length : Int) = (m.length : Int)
  · refine evYes c ?_
    exact Ints.l0 l m (by omega) hl l.length 0 (by omega)
  · refine evNo c (evC ?_)
    rw [decide_eq_false]
    intro e
    rw [e] at c
    exact c rfl
theorem Same.ev (a b : ES) (hl : a.f2.length ≤ 9223372036854775807) : Ev (fun k => shuttlecockref04_Same.f k a.f0 a.f1 a.f2 a.f3 b.f0 b.f1 b.f2 b.f3) (decide (a.f0 = b.f0 ∧ a.f1 = b.f1 ∧ a.f2 = b.f2 ∧ lst a.f3 = lst b.f3)) := by
  unfold shuttlecockref04_Same.f
  by_cases c0 : a.f0 = b.f0
  · refine evYes c0 ?_
    by_cases c1 : a.f1 = b.f1
    · refine evYes c1 ?_
      refine Ev.bind (Ints.ev a.f2 b.f2 hl) ?_
      by_cases c2 : a.f2 = b.f2
      · refine evYes (decide_eq_true c2) (evC ?_)
        rw [toList_lst, toList_lst]
        by_cases c3 : lst a.f3 = lst b.f3
        · rw [decide_eq_true ⟨c0, c1, c2, c3⟩, c3]
          simp
        · rw [decide_eq_false (fun h => c3 h.2.2.2)]
          simpa using c3
      · exact evNo (by simpa using c2) (evC (by rw [decide_eq_false (fun h => c2 h.2.2.1)]))
    · exact evNo c1 (evC (by rw [decide_eq_false (fun h => c1 h.2.1)]))
  · exact evNo c0 (evC (by rw [decide_eq_false (fun h => c0 h.1)]))
theorem Same.refl (a b : ES) (h : a = b) (hl : a.f2.length ≤ 9223372036854775807) : Ev (fun k => shuttlecockref04_Same.f k a.f0 a.f1 a.f2 a.f3 b.f0 b.f1 b.f2 b.f3) true := by
  have := Same.ev a b hl
  rw [decide_eq_true ⟨by rw [h], by rw [h], by rw [h], by rw [h]⟩] at this
  exact this
end Go.Proofs.Ytfcombimnmkoeaa.EvD

/- What the document says of kinds, and of numbers that fit. For every input. -/
set_option linter.unusedVariables false
set_option linter.unusedSimpArgs false
namespace Go.Proofs.Ytfcombimnmkoeaa.EvQ
open Go Go.RowKit Go.Proofs.Ytfcombimnmkoeaa.Q Go.Proofs.YtfcombimnmkoeaaW.PrintWords Go.Proofs.YtfcombimnmkoeaaW.PrintLast Go.Proofs.YtfcombimnmkoeaaW.PrintMore ShCore EvA EvB EvC
theorem rknown_f (a : Int) : shuttlecockref03_Known.f a = some (Kind.knownB a) := by
  unfold shuttlecockref03_Known.f Kind.knownB
  split
  · congr 1
    exact decide_eq_decide.2 (by omega)
  · rw [decide_eq_false (by omega)]
theorem rexp_f (a : Int) : shuttlecockref03_Exp.f a = some (expE a) := by
  unfold shuttlecockref03_Exp.f expE
  split
  · congr 1
    exact decide_eq_decide.2 (by omega)
  · rfl
theorem rfits_f (a : Int) : shuttlecockref04_Fits.f a = some (fitsE a) := by
  unfold shuttlecockref04_Fits.f fitsE
  split <;> rfl
theorem rArgs (a : Int) : Ev (fun k => shuttlecockref03_Args.f k a) (Kind.argsL a) := by
  unfold shuttlecockref03_Args.f Kind.argsL
  by_cases c1 : a = 1
  · exact evYes c1 (by rw [if_pos c1]; exact Ev.now _)
  refine evNo c1 ?_
  rw [if_neg c1]
  by_cases c3 : a = 3
  · exact evYes c3 (by rw [if_pos c3]; exact Ev.now _)
  refine evNo c3 ?_
  rw [if_neg c3]
  by_cases c4 : a = 4
  · exact evYes c4 (by rw [if_pos c4]; exact Ev.now _)
  refine evNo c4 ?_
  rw [if_neg c4]
  by_cases c5 : a = 5
  · refine evYes c5 (Ev.step (fun k => shuttlecockref03_Args.j0.eq_2 ..) ?_)
    rw [if_pos c5]
    exact evYes (by simp [c5]) (Ev.now _)
  refine evNo c5 ?_
  rw [if_neg c5]
  refine Ev.step (fun k => shuttlecockref03_Args.j0.eq_2 ..) ?_
  by_cases c6 : a = 6
  · exact evYes (by simp [c6]) (by rw [if_pos c6]; exact Ev.now _)
  refine evNo (by simpa using c6) ?_
  rw [if_neg c6]
  by_cases c7 : a = 7
  · exact evYes c7 (by rw [if_pos c7]; exact Ev.now _)
  refine evNo c7 ?_
  rw [if_neg c7]
  by_cases c9 : a = 9
  · exact evYes c9 (by rw [if_pos c9]; exact Ev.now _)
  refine evNo c9 ?_
  rw [if_neg c9]
  by_cases c10 : a = 10
  · exact evYes c10 (by rw [if_pos c10]; exact Ev.now _)
  refine evNo c10 ?_
  rw [if_neg c10]
  exact Ev.now _
end Go.Proofs.Ytfcombimnmkoeaa.EvQ

/- The document's events, read. For every input. -/
set_option linter.unusedVariables false
set_option linter.unusedSimpArgs false
namespace Go.Proofs.Ytfcombimnmkoeaa.EvS
open Go Go.RowKit Go.Proofs.Ytfcombimnmkoeaa.Q Go.Proofs.YtfcombimnmkoeaaW.PrintWords Go.Proofs.YtfcombimnmkoeaaW.PrintLast Go.Proofs.YtfcombimnmkoeaaW.PrintMore ShCore EvA EvB EvC EvQ
/-! ### reading -/
theorem rTake (s : ByteArray) (q : Nat) (hs : s.size < 4611686018427387904) (hq : q ≤ (lst s).length) : Ev (fun k => shuttlecockref01_Take.f k s q) (if (tkh ((lst s).drop q)).2.2 = 0 then (((tkh ((lst s).drop q)).1 : Int), ((q + (tkh ((lst s).drop q)).2.1 : Nat) : Int), 0) else (0, 0, (((tkh ((lst s).drop q)).2.2 : Nat) : Int))) := by
  rw [← takeL_pos _ q hq]
  exact shuttlecockref01_Take.ev s q hs
theorem rDec0 (s : ByteArray) (hs : s.size < 4611686018427387904) (a d : Int) (n : Nat) (hn : n ≤ 1000) : ∀ (r i q : Nat) (acc : List Int), i + r = n → acc.length ≤ i → q ≤ (lst s).length →
    Ev (fun k => shuttlecockref04_Decode.l0 k s q (n : Int) i 0 0 ⟨#[]⟩ a d acc ⟨#[]⟩) (if (argsD r ((lst s).drop q)).2.2 = 0 then (a, d, acc ++ (argsD r ((lst s).drop q)).1, ⟨#[]⟩, ((q + (argsD r ((lst s).drop q)).2.1 : Nat) : Int), 0) else (0, 0, [], ⟨#[]⟩, 0, (((argsD r ((lst s).drop q)).2.2 : Nat) : Int)))
  | 0, i, q, acc, hi, hl, hq => by
    refine Ev.step (fun k => shuttlecockref04_Decode.l0.eq_2 ..) (evNo (by omega) (evC ?_))
    simp [argsD]
  | r + 1, i, q, acc, hi, hl, hq => by
    refine Ev.step (fun k => shuttlecockref04_Decode.l0.eq_2 ..) (evYes (by omega) (Ev.bind (rTake s q hs hq) ?_))
    unfold argsD
    by_cases h : (tkh ((lst s).drop q)).2.2 = 0
    · obtain ⟨b1, b2, b3, b4, b5, b6⟩ := tkh_back _ h
      rw [List.length_drop] at b4
      have ih := rDec0 s hs a d n hn r (i + 1) (q + (tkh ((lst s).drop q)).2.1) (acc ++ [((tkh ((lst s).drop q)).1 : Int)]) (by omega) (by simp; omega) (by omega)
      rw [← List.drop_drop] at ih
      rw [if_pos h, if_pos h]
      refine evYes rfl (evYes (by omega) ?_)
      rw [nxt (by omega)]
      by_cases h2 : (argsD r (((lst s).drop q).drop (tkh ((lst s).drop q)).2.1)).2.2 = 0
      · rw [if_pos h2] at ih
        rw [if_pos h2]
        simp only [if_true]
        simp only [List.append_assoc, List.singleton_append] at ih
        rw [show q + ((tkh ((lst s).drop q)).2.1 + (argsD r (((lst s).drop q).drop (tkh ((lst s).drop q)).2.1)).2.1) = q + (tkh ((lst s).drop q)).2.1 + (argsD r (((lst s).drop q).drop (tkh ((lst s).drop q)).2.1)).2.1 by omega]
        exact ih
      · rw [if_neg h2] at ih
        rw [if_neg h2]
        simp only
        rw [if_neg h2]
        exact ih
    · rw [if_neg h, if_neg h]
      simp only
      rw [if_neg h]
      exact evNo (by omega) (Ev.now _)
theorem rDecT (s : ByteArray) (hs : s.size < 4611686018427387904) (a d : Int) (q : Nat) (hq : q ≤ (lst s).length) :
    Ev (fun k => (shuttlecockref01_Take.f k s (q : Int)).bind fun bt322 => (if bt322.2.2 = 0 then (if bt322.1 > (wrap64 ((s.size : Int) - bt322.2.1)) then (some ((0 : Int), (0 : Int), ([] : List Int), (⟨#[]⟩ : ByteArray), (0 : Int), (10 : Int))) else (if 0 ≤ bt322.2.1 then (if bt322.2.1 ≤ (wrap64 (bt322.2.1 + bt322.1)) then (if (wrap64 (bt322.2.1 + bt322.1)) ≤ (s.size : Int) then (some (a, d, ([] : List Int), s.extract (bt322.2.1 : Int).toNat ((wrap64 (bt322.2.1 + bt322.1)) : Int).toNat, wrap64 (bt322.2.1 + bt322.1), 0)) else (none)) else (none)) else (none))) else (some (0, 0, ([] : List Int), (⟨#[]⟩ : ByteArray), 0, bt322.2.2))))
      (if (textD ((lst s).drop q)).2.2 = 0 then (a, d, [], arr (textD ((lst s).drop q)).1, ((q + (textD ((lst s).drop q)).2.1 : Nat) : Int), 0) else (0, 0, [], ⟨#[]⟩, 0, (((textD ((lst s).drop q)).2.2 : Nat) : Int))) := by
  have hl := lst_length s
  refine Ev.bind (rTake s q hs hq) ?_
  unfold textD
  by_cases h2 : (tkh ((lst s).drop q)).2.2 = 0
  · obtain ⟨d1, d2, d3, d4, d5, d6⟩ := tkh_back _ h2
    rw [if_pos h2, if_pos h2]
    generalize tkh ((lst s).drop q) = r at d3 d4 d5 d6
    obtain ⟨v, n, x⟩ := r
    simp only at d3 d4 d5 d6
    rw [List.length_drop, hl] at d4
    refine evYes rfl ?_
    simp only
    rw [List.drop_drop, List.length_drop, hl]
    have e2 : wrap64 ((s.size : Int) - ((q + n : Nat) : Int)) = ((s.size - (q + n) : Nat) : Int) := by
      rw [wrap64_of (by omega) (by omega)]
      omega
    rw [e2]
    by_cases h3 : v ≤ s.size - (q + n)
    · rw [if_pos h3]
      have e3 : wrap64 (((q + n : Nat) : Int) + (v : Int)) = ((q + n + v : Nat) : Int) := by
        rw [wrap64_of (by omega) (by omega)]
        omega
      rw [e3]
      refine evNo (by omega) (evYes (by omega) (evYes (by omega) (evYes (by omega) (evC ?_))))
      simp only [if_true, Int.toNat_natCast, Option.some.injEq, Prod.mk.injEq, true_and, and_true]
      refine ⟨?_, by omega⟩
      apply lst_inj
      rw [lst_extract, lst_arr, show q + n + v - (q + n) = v by omega]
    · rw [if_neg h3]
      exact evYes (by omega) (Ev.now _)
  · rw [if_neg h2, if_neg h2]
    simp only
    rw [if_neg h2]
    exact evNo (by omega) (Ev.now _)
theorem rDec1 (s : ByteArray) (hs : s.size < 4611686018427387904) (p : Nat) (c : UInt8) (u : List UInt8) (hc : (lst s).drop p = c :: u) (hk : Kind.knownB c.toNat = true ∨ expE c.toNat = true) :
    Ev (fun k => shuttlecockref04_Decode.j1 k s p false 0 0 ⟨#[]⟩ c.toNat 0 ⟨#[]⟩) (decT (lst s) p) := by
  have hl := lst_length s
  have hlen : (lst s).length = p + 1 + u.length := by
    have h1 := congrArg List.length hc
    rw [List.length_drop, List.length_cons] at h1
    omega
  have hd1 : (lst s).drop (p + 1) = u := by rw [← List.drop_drop, hc]; rfl
  have e1 : wrap64 ((p : Int) + 1) = ((p + 1 : Nat) : Int) := by rw [wrap64_of (by omega) (by omega)]; omega
  have ht1 := rTake s (p + 1) hs (by omega)
  rw [hd1] at ht1
  have hD : decT (lst s) p = if (decC c u).2.2 = 0 then ((decC c u).1.f0, (decC c u).1.f1, (decC c u).1.f2, (decC c u).1.f3, (p : Int) + (decC c u).2.1, 0) else (0, 0, [], ⟨#[]⟩, 0, (((decC c u).2.2 : Nat) : Int)) := by
    unfold decT
    rw [if_neg (by omega), Int.toNat_natCast, hc, decS_cons]
  rw [hD]
  refine Ev.step (fun k => shuttlecockref04_Decode.j1.eq_2 ..) (evNo (by simp) ?_)
  rw [e1]
  refine Ev.bind ht1 ?_
  unfold decC
  rw [if_pos hk]
  by_cases h : (tkh u).2.2 = 0
  · obtain ⟨b1, b2, b3, b4, b5, b6⟩ := tkh_back _ h
    rw [if_pos h, if_pos h]
    generalize tkh u = r at b3 b4 b5 b6
    obtain ⟨v, n, x⟩ := r
    simp only at b3 b4 b5 b6
    have hd2 : (lst s).drop (p + 1 + n) = u.drop n := by rw [← List.drop_drop, hd1]
    refine evYes rfl (Ev.bind (evC (rexp_f _)) ?_)
    by_cases hx : expE c.toNat = true
    · rw [if_pos hx]
      refine evYes hx ?_
      have h0 := rDecT s hs c.toNat v (p + 1 + n) (by omega)
      rw [hd2] at h0
      generalize textD (u.drop n) = w at h0
      obtain ⟨w1, w2, w3⟩ := w
      simp only at h0 ⊢
      by_cases h2 : w3 = 0
      · rw [if_pos h2] at h0
        rw [if_pos h2]
        simp only [if_true]
        rw [show p + 1 + n + w2 = p + (1 + n + w2) by omega] at h0
        exact h0
      · rw [if_neg h2] at h0
        rw [if_neg h2]
        simp only
        rw [if_neg h2]
        exact h0
    · rw [if_neg hx]
      refine evNo hx (Ev.bind (rArgs _) ?_)
      have ha3 := Kind.argsL_length c.toNat
      have h0 := rDec0 s hs c.toNat v (Kind.argsL c.toNat).length (by omega) (Kind.argsL c.toNat).length 0 (p + 1 + n) [] (by omega) (by simp) (by omega)
      rw [hd2] at h0
      generalize argsD (Kind.argsL c.toNat).length (u.drop n) = w at h0
      obtain ⟨w1, w2, w3⟩ := w
      simp only at h0 ⊢
      by_cases h2 : w3 = 0
      · rw [if_pos h2] at h0
        rw [if_pos h2]
        simp only [if_true]
        rw [List.nil_append, show p + 1 + n + w2 = p + (1 + n + w2) by omega] at h0
        exact h0
      · rw [if_neg h2] at h0
        rw [if_neg h2]
        simp only
        rw [if_neg h2]
        exact h0
  · rw [if_neg h, if_neg h]
    simp only
    rw [if_neg h]
    exact evNo (by omega) (Ev.now _)
theorem rDecode (s : ByteArray) (p : Int) (hs : s.size < 4611686018427387904) : Ev (fun k => shuttlecockref04_Decode.f k s p) (decT (lst s) p) := by
  unfold shuttlecockref04_Decode.f
  have hl := lst_length s
  by_cases c1 : p < 0
  · refine evYes c1 ?_
    unfold decT
    rw [if_pos (.inl c1)]
    exact Ev.step (fun k => shuttlecockref04_Decode.j0.eq_2 ..) (evYes rfl (Ev.now _))
  refine evNo c1 ?_
  by_cases c2 : p > (s.size : Int)
  · unfold decT
    rw [decide_eq_true c2, if_pos (.inr (by rw [hl]; exact c2))]
    exact Ev.step (fun k => shuttlecockref04_Decode.j0.eq_2 ..) (evYes rfl (Ev.now _))
  rw [decide_eq_false c2]
  obtain ⟨q, rfl⟩ : ∃ q : Nat, p = q := ⟨p.toNat, by omega⟩
  refine Ev.step (fun k => shuttlecockref04_Decode.j0.eq_2 ..) (evNo (by simp) ?_)
  by_cases c3 : (q : Int) = (s.size : Int)
  · refine evYes c3 (evC ?_)
    unfold decT
    rw [if_neg (by rw [hl]; omega), Int.toNat_natCast, List.drop_eq_nil_of_le (by rw [hl]; omega)]
    rfl
  refine evNo c3 (evYes (by omega) (evYes (by omega) ?_))
  obtain ⟨c, hc, hb⟩ := drop_bt s q (by omega)
  have hcl := u8_lt c
  have e1 : wrap64 (bt s (q : Int)) = (c.toNat : Int) := by rw [hb, wrap64_of (by omega) (by omega)]
  rw [e1]
  refine Ev.bind (evC (rknown_f _)) ?_
  by_cases hk : Kind.knownB c.toNat = true
  · exact evYes hk (rDec1 s hs q c _ hc (.inl hk))
  refine evNo hk (Ev.bind (evC (rexp_f _)) ?_)
  by_cases hx : expE c.toNat = true
  · rw [hx]
    exact rDec1 s hs q c _ hc (.inr hx)
  · have hx' : expE c.toNat = false := by simpa using hx
    rw [hx']
    refine Ev.step (fun k => shuttlecockref04_Decode.j1.eq_2 ..) (evYes rfl (evC ?_))
    have e0 : decC c ((lst s).drop (q + 1)) = (zE, 0, 30) := by
      unfold decC
      rw [if_neg (fun h => h.elim hk hx)]
    unfold decT
    rw [if_neg (by rw [hl]; omega), Int.toNat_natCast, hc, decS_cons, e0]
    rfl
end Go.Proofs.Ytfcombimnmkoeaa.EvS

/- The document's texts and numbers, one behind the other, by plain lists of bytes. For every input within the machine's sizes. -/
namespace Go.Proofs.Ytfcombimnmkoeaa.Q
open Go Go.RowKit Go.Proofs.YtfcombimnmkoeaaW.PrintWords Go.Proofs.YtfcombimnmkoeaaW.PrintLast Go.Proofs.YtfcombimnmkoeaaW.PrintMore ShCore
theorem rNums0 (l : List Int) (hl : l.length ≤ 1000000000000) (d : Nat) : ∀ (i : Nat) (acc : List UInt8), i + d = l.length → acc.length ≤ 9 * i →
    Ev (fun k => shuttlecockref02_Nums.l0 k l (arr acc) (i : Int)) (arr (((numsO (l.drop i)).map (acc ++ ·)).getD [])) := by
  induction d with
  | zero =>
    intro i acc hi ha
    refine Ev.step (fun k => shuttlecockref02_Nums.l0.eq_2 ..) ?_
    refine evNo (by omega) ?_
    rw [List.drop_eq_nil_of_le (by omega)]
    simp [numsO]
    exact Ev.now _
  | succ d ih =>
    intro i acc hi ha
    refine Ev.step (fun k => shuttlecockref02_Nums.l0.eq_2 ..) ?_
    refine evYes (by omega) (evYes (by omega) ?_)
    refine Ev.bind (shuttlecockref01_Put.ev _) ?_
    rw [rd_drop (show i < l.length by omega)]
    simp only [toList_lst, lst_arr, numsO]
    by_cases c : put (rd l i) = []
    · simp only [if_pos c]
      exact Ev.now _
    · simp only [if_neg c]
      have hp := put_len (rd l i)
      refine Ev.bind (shuttlecockref01_Put.ev _) ?_
      refine evYes (by rw [size_arr, size_arr]; omega) ?_
      have a4 : (i : Int) + 1 = ((i + 1 : Nat) : Int) ∧ (i : Int) + 1 < 9223372036854775808 := by omega
      simp only [arr_append, wrap64_nat' a4.1 a4.2]
      have h2 := ih (i + 1) (acc ++ put (rd l i)) (by omega) (by rw [List.length_append]; omega)
      have e : ((numsO (l.drop (i + 1))).map (put (rd l i) ++ ·)).map (acc ++ ·) = (numsO (l.drop (i + 1))).map ((acc ++ put (rd l i)) ++ ·) := by
        rw [Option.map_map]
        congr 1
        funext x
        simp
      rw [e]
      exact h2
theorem rNums (l : List Int) (hl : l.length ≤ 1000000000000) : Ev (fun k => shuttlecockref02_Nums.f k l) (arr (numsL l)) := by
  have h := rNums0 l hl l.length 0 [] (by omega) (by simp)
  have e : ((numsO (l.drop 0)).map (([] : List UInt8) ++ ·)).getD [] = numsL l := by
    unfold numsL
    cases h : numsO l <;> simp [h]
  rw [e] at h
  exact h
theorem rText (s : ByteArray) (hs : s.size < 4611686018427387904) : Ev (fun k => shuttlecockref02_Text.f k s) (arr (text (lst s))) := by
  unfold shuttlecockref02_Text.f
  have h9 := put_len (s.size : Int)
  refine Ev.bind (shuttlecockref01_Put.ev (s.size : Int)) ?_
  refine evYes (by rw [size_arr]; omega) (evC ?_)
  apply congrArg some
  apply lst_inj
  rw [lst_append, lst_arr, lst_arr]
  unfold text
  rw [lst_length]
end Go.Proofs.Ytfcombimnmkoeaa.Q

/- What the document's reader comes to, in numbers and texts, by plain functions of lists. For every input within the machine's sizes. -/
set_option linter.unusedVariables false
namespace Go.Proofs.Ytfcombimnmkoeaa.RefT
open Go Go.RowKit Go.Proofs.Ytfcombimnmkoeaa.Q Go.Proofs.YtfcombimnmkoeaaW.PrintWords Go.Proofs.YtfcombimnmkoeaaW.PrintLast Go.Proofs.YtfcombimnmkoeaaW.PrintMore ShCore
/-- Behind an error a reader stands where the call with the error began. -/
def rdInv (r : Rd) : Prop := r.e = 0 ∨ r.f ≤ r.a
theorem rdInv_num {s : List UInt8} {r : Rd} (h : rdInv r) : rdInv (rdNum s r).2 := by
  unfold rdNum
  split
  · rename_i he
    split
    · exact .inl he
    · exact .inr (Int.le_refl _)
  · exact h
theorem refNum (s : ByteArray) (a e f : Int) {n : Int} {a' e' f' : Int} (hs : s.size < 4611686018427387904) (hr : rdNum (lst s) ⟨a, e, f⟩ = (n, ⟨a', e', f'⟩)) : Ev (fun k => shuttlecockref02_Reader_Num.f k s a e f) (n, s, a', e', f') := by
  unfold shuttlecockref02_Reader_Num.f
  unfold rdNum at hr
  by_cases c : e = 0
  · refine evYes c ?_
    refine Ev.bind (shuttlecockref01_Take.ev s a hs) ?_
    rw [if_pos c] at hr
    by_cases c2 : (takeL (lst s) a).2.2 = 0
    · simp only [if_pos c2] at hr ⊢
      simp only [Prod.mk.injEq, Rd.mk.injEq] at hr
      obtain ⟨rfl, rfl, rfl, rfl⟩ := hr
      exact Ev.now _
    · simp only [if_neg c2] at hr ⊢
      simp only [Prod.mk.injEq, Rd.mk.injEq] at hr
      obtain ⟨rfl, rfl, rfl, rfl⟩ := hr
      exact Ev.now _
  · refine evNo c ?_
    rw [if_neg c] at hr
    simp only [Prod.mk.injEq, Rd.mk.injEq] at hr
    obtain ⟨rfl, rfl, rfl, rfl⟩ := hr
    exact Ev.now _
theorem refTake (s : ByteArray) (a e f n : Int) {l : List UInt8} {a' e' f' : Int} (hs : s.size < 4611686018427387904) (h : Rd.ok (lst s) ⟨a, e, f⟩) (hn : n < 9223372036854775808) (hr : rdTake (lst s) ⟨a, e, f⟩ n = (l, ⟨a', e', f'⟩)) : shuttlecockref02_Reader_Take.f s a e f n = some (arr l, s, a', e', f') := by
  have hl := lst_length s
  obtain ⟨h0, h1⟩ := h
  simp only at h0 h1
  rw [hl] at h1
  have a1 : -9223372036854775808 ≤ (s.size : Int) - a ∧ (s.size : Int) - a < 9223372036854775808 := by omega
  unfold shuttlecockref02_Reader_Take.f shuttlecockref02_Reader_fail.f
  unfold rdTake rdTake0 at hr
  simp only [hl] at hr
  rw [wrap64_of a1.1 a1.2]
  by_cases c : e = 0
  · rw [if_pos c] at hr ⊢
    by_cases c1 : n < 0
    · rw [if_pos c1] at hr ⊢
      simp only [Prod.mk.injEq, Rd.mk.injEq] at hr
      obtain ⟨rfl, rfl, rfl, rfl⟩ := hr
      rfl
    · rw [if_neg c1] at hr ⊢
      by_cases c2 : n > (s.size : Int) - a
      · rw [if_pos c2] at hr ⊢
        simp only [Prod.mk.injEq, Rd.mk.injEq] at hr
        obtain ⟨rfl, rfl, rfl, rfl⟩ := hr
        rfl
      · rw [if_neg c2] at hr ⊢
        simp only [Prod.mk.injEq, Rd.mk.injEq] at hr
        obtain ⟨rfl, rfl, rfl, rfl⟩ := hr
        have a2 : -9223372036854775808 ≤ a + n ∧ a + n < 9223372036854775808 := by omega
        have a3 : -9223372036854775808 ≤ a + n - n ∧ a + n - n < 9223372036854775808 := by omega
        rw [wrap64_of a2.1 a2.2, wrap64_of a3.1 a3.2, if_pos (by omega), if_pos (by omega), if_pos (by omega)]
        have e1 : s.extract (a + n - n).toNat (a + n).toNat = arr (((lst s).drop a.toNat).take n.toNat) := by
          apply lst_inj
          rw [lst_extract, lst_arr, show (a + n).toNat - (a + n - n).toNat = n.toNat by omega, show (a + n - n).toNat = a.toNat by omega]
        rw [e1]
  · rw [if_neg c] at hr ⊢
    simp only [Prod.mk.injEq, Rd.mk.injEq] at hr
    obtain ⟨rfl, rfl, rfl, rfl⟩ := hr
    rfl
theorem refText (s : ByteArray) (a e f : Int) {l : List UInt8} {a' e' f' : Int} (hs : s.size < 4611686018427387904) (h : Rd.ok (lst s) ⟨a, e, f⟩) (hi : rdInv ⟨a, e, f⟩) (hr : rdText (lst s) ⟨a, e, f⟩ = (l, ⟨a', e', f'⟩)) : Ev (fun k => shuttlecockref02_Reader_Text.f k s a e f) (arr l, s, a', e', f') := by
  unfold shuttlecockref02_Reader_Text.f
  have hk := rdNum_ok h
  have hnn := rdNum_nonneg (lst s) ⟨a, e, f⟩
  generalize hq : rdNum (lst s) ⟨a, e, f⟩ = q at hk hnn
  obtain ⟨n, a1, e1, f1⟩ := q
  refine Ev.bind (refNum s a e f hs hq) ?_
  simp only at hk hnn ⊢
  unfold rdText at hr
  simp only [hq] at hr
  by_cases c : e = 0
  · rw [if_pos c] at hr
    subst c
    by_cases c1 : e1 = 0
    · rw [if_pos c1] at hr
      subst c1
      have h1 : a < a1 := by
        unfold rdNum at hq
        rw [if_pos rfl] at hq
        split at hq
        · rename_i ht
          obtain ⟨_, u, hu, hu1, _⟩ := takeL_back _ _ ht
          simp only [Prod.mk.injEq, Rd.mk.injEq] at hq
          have h3 := hq.2.1
          simp only at hu
          omega
        · rename_i ht
          simp only [Prod.mk.injEq, Rd.mk.injEq] at hq
          exact absurd hq.2.2.1 ht
      generalize ht : rdTake (lst s) ⟨a1, 0, f1⟩ n = t
      obtain ⟨l2, a2, e2, f2⟩ := t
      have hT := refTake s a1 0 f1 n hs hk (by omega) ht
      refine Ev.bind (evC hT) ?_
      simp only
      unfold rdTake at ht
      rw [if_pos rfl] at ht
      unfold rdTake0 at ht hr
      by_cases c2 : n < 0
      · omega
      · rw [if_neg c2] at ht hr
        by_cases c3 : n > ((lst s).length : Int) - a1
        · simp only [if_pos c3, Prod.mk.injEq, Rd.mk.injEq] at ht hr
          obtain ⟨rfl, rfl, rfl, rfl⟩ := ht
          obtain ⟨rfl, rfl, rfl, rfl⟩ := hr
          refine evNo (by omega) (evYes h1 ?_)
          exact Ev.now _
        · simp only [if_neg c3, Prod.mk.injEq, Rd.mk.injEq] at ht hr
          obtain ⟨rfl, rfl, rfl, rfl⟩ := ht
          obtain ⟨rfl, rfl, rfl, rfl⟩ := hr
          exact evYes rfl (Ev.now _)
    · rw [if_neg c1] at hr
      simp only [Prod.mk.injEq, Rd.mk.injEq] at hr
      obtain ⟨rfl, rfl, rfl, rfl⟩ := hr
      have hf : f1 = a := by
        unfold rdNum at hq
        rw [if_pos rfl] at hq
        split at hq
        · simp only [Prod.mk.injEq, Rd.mk.injEq] at hq
          exact absurd hq.2.2.1.symm c1
        · simp only [Prod.mk.injEq, Rd.mk.injEq] at hq
          exact hq.2.2.2.symm
      have ht : rdTake (lst s) ⟨a1, e1, f1⟩ n = ([], ⟨a1, e1, f1⟩) := by unfold rdTake; rw [if_neg c1]
      refine Ev.bind (evC (refTake s a1 e1 f1 n hs hk (by omega) ht)) ?_
      exact evNo c1 (evNo (by simp only; omega) (Ev.now _))
  · rw [if_neg c] at hr
    simp only [Prod.mk.injEq, Rd.mk.injEq] at hr
    obtain ⟨rfl, rfl, rfl, rfl⟩ := hr
    unfold rdNum at hq
    rw [if_neg c] at hq
    simp only [Prod.mk.injEq, Rd.mk.injEq] at hq
    obtain ⟨rfl, rfl, rfl, rfl⟩ := hq
    have ht : rdTake (lst s) ⟨a, e, f⟩ 0 = ([], ⟨a, e, f⟩) := by unfold rdTake; rw [if_neg c]
    refine Ev.bind (evC (refTake s a e f 0 hs hk (by omega) ht)) ?_
    have hfa : f ≤ a := by
      rcases hi with hi | hi
      · exact absurd hi c
      · exact hi
    exact evNo c (evNo (by simp only; omega) (Ev.now _))
end Go.Proofs.Ytfcombimnmkoeaa.RefT

/- A body's events and their times: plain lists alone. -/
namespace Go.Proofs.Ytfcombimnmkoeaa.BatA
open Go Go.RowKit Go.Proofs.Ytfcombimnmkoeaa.Q Go.Proofs.YtfcombimnmkoeaaW.PrintWords Go.Proofs.YtfcombimnmkoeaaW.PrintLast Go.Proofs.YtfcombimnmkoeaaW.PrintMore ShCore EvA

def mayBt (g s b : Int) (n : Nat) : Bool := decide (1 ≤ g ∧ g < 4611686018427387904 ∧ 0 ≤ s ∧ s < 4611686018427387904 ∧ 0 ≤ b ∧ b < 4611686018427387904 ∧ n ≤ 65536)
theorem mayBt_iff (g st b : Int) (n : Nat) : mayBt g st b n = true ↔ 1 ≤ g ∧ g < 4611686018427387904 ∧ 0 ≤ st ∧ st < 4611686018427387904 ∧ 0 ≤ b ∧ b < 4611686018427387904 ∧ n ≤ 65536 := by simp [mayBt]
def okE (e : ES) : Prop := mayE e.f0 e.f1 e.f2 e.f3 = true ∧ e.f3.size < 4611686018427387904
def evsD : Nat → Int → List UInt8 → Nat → List ES × List Int × Nat × Nat
  | _, _, [], _ => ([], [], 0, 0)
  | 0, _, _ :: _, p => ([], [], p, 10)
  | n + 1, now, c :: u, p =>
    if (decS (c :: u)).2.2 = 0 then
      (if now + (decS (c :: u)).1.f1 < 4611686018427387904 then
        (if (evsD n (now + (decS (c :: u)).1.f1) ((c :: u).drop (decS (c :: u)).2.1) (p + (decS (c :: u)).2.1)).2.2.2 = 0 then
          ((decS (c :: u)).1 :: (evsD n (now + (decS (c :: u)).1.f1) ((c :: u).drop (decS (c :: u)).2.1) (p + (decS (c :: u)).2.1)).1, (now + (decS (c :: u)).1.f1) :: (evsD n (now + (decS (c :: u)).1.f1) ((c :: u).drop (decS (c :: u)).2.1) (p + (decS (c :: u)).2.1)).2.1, 0, 0)
        else ([], [], (evsD n (now + (decS (c :: u)).1.f1) ((c :: u).drop (decS (c :: u)).2.1) (p + (decS (c :: u)).2.1)).2.2.1, (evsD n (now + (decS (c :: u)).1.f1) ((c :: u).drop (decS (c :: u)).2.1) (p + (decS (c :: u)).2.1)).2.2.2))
      else ([], [], p, 11))
    else ([], [], p, (decS (c :: u)).2.2)
def sums : Int → List ES → List Int
  | _, [] => []
  | now, e :: l => (now + e.f1) :: sums (now + e.f1) l
theorem sums_length : ∀ (now : Int) (l : List ES), (sums now l).length = l.length
  | _, [] => rfl
  | now, e :: l => by simp [sums, sums_length]
theorem enc_ne {e : ES} (h : okE e) : ∃ c u, encE e = c :: u := by
  unfold encE
  rw [if_pos h.1]
  exact ⟨_, _, rfl⟩
theorem fitsDt {e : ES} (h : okE e) : 0 ≤ e.f1 ∧ e.f1 < 4611686018427387904 := (fitsE_iff _).1 ((mayE_iff ..).1 h.1).1
theorem evsD_nil (n : Nat) (now : Int) (p : Nat) : evsD n now [] p = ([], [], 0, 0) := by cases n <;> rfl
/-- What comes back. -/
theorem evsD_back : ∀ (n : Nat) (now : Int) (u : List UInt8) (p : Nat), (evsD n now u p).2.2.2 = 0 → (∀ e ∈ (evsD n now u p).1, okE e) ∧ (evsD n now u p).1.flatMap encE = u ∧ (evsD n now u p).2.1 = sums now (evsD n now u p).1 ∧ (∀ t ∈ (evsD n now u p).2.1, t < 4611686018427387904) ∧ (evsD n now u p).2.2.1 = 0
  | n, now, [], p, _ => by rw [evsD_nil]; simp [sums]
  | 0, now, c :: u, p, h => by simp [evsD] at h
  | n + 1, now, c :: u, p, h => by
    unfold evsD at h ⊢
    by_cases h1 : (decS (c :: u)).2.2 = 0
    · rw [if_pos h1] at h ⊢
      obtain ⟨b1, b2, b3, b4, b5⟩ := decS_back _ h1
      by_cases h2 : now + (decS (c :: u)).1.f1 < 4611686018427387904
      · rw [if_pos h2] at h ⊢
        by_cases h3 : (evsD n (now + (decS (c :: u)).1.f1) ((c :: u).drop (decS (c :: u)).2.1) (p + (decS (c :: u)).2.1)).2.2.2 = 0
        · rw [if_pos h3]
          obtain ⟨i1, i2, i3, i4, i5⟩ := evsD_back n _ _ _ h3
          refine ⟨?_, ?_, ?_, ?_, rfl⟩
          · intro e he
            rcases List.mem_cons.1 he with rfl | he
            · exact ⟨b1, b5⟩
            · exact i1 e he
          · rw [List.flatMap_cons, b2, i2, List.take_append_drop]
          · simp only [sums, i3]
          · intro t ht
            rcases List.mem_cons.1 ht with rfl | ht
            · exact h2
            · exact i4 t ht
        · rw [if_neg h3] at h
          exact absurd h h3
      · rw [if_neg h2] at h
        simp at h
    · rw [if_neg h1] at h
      exact absurd h h1
/-- Where it is wrong. -/
theorem evsD_wrong : ∀ (n : Nat) (now : Int) (u : List UInt8) (p : Nat), (evsD n now u p).2.2.2 ≠ 0 → (evsD n now u p).1 = [] ∧ (evsD n now u p).2.1 = [] ∧ (evsD n now u p).2.2.1 ≤ p + u.length
  | n, now, [], p, h => by rw [evsD_nil] at h; simp at h
  | 0, now, c :: u, p, _ => by simp [evsD]
  | n + 1, now, c :: u, p, h => by
    unfold evsD at h ⊢
    by_cases h1 : (decS (c :: u)).2.2 = 0
    · rw [if_pos h1] at h ⊢
      obtain ⟨b1, b2, b3, b4, b5⟩ := decS_back _ h1
      by_cases h2 : now + (decS (c :: u)).1.f1 < 4611686018427387904
      · rw [if_pos h2] at h ⊢
        by_cases h3 : (evsD n (now + (decS (c :: u)).1.f1) ((c :: u).drop (decS (c :: u)).2.1) (p + (decS (c :: u)).2.1)).2.2.2 = 0
        · rw [if_pos h3] at h
          simp at h
        · rw [if_neg h3] at h ⊢
          have i3 := (evsD_wrong n _ _ _ h3).2.2
          rw [List.length_drop] at i3
          refine ⟨rfl, rfl, ?_⟩
          simp only
          omega
      · rw [if_neg h2]
        exact ⟨rfl, rfl, by simp only; omega⟩
    · rw [if_neg h1]
      exact ⟨rfl, rfl, by simp only; omega⟩
end Go.Proofs.Ytfcombimnmkoeaa.BatA

/- Whether a batch may be, by the program. For every input. -/
set_option linter.unusedVariables false
set_option linter.unusedSimpArgs false
namespace Go.Proofs.Ytfcombimnmkoeaa.BatM
open Go Go.RowKit Go.Proofs.Ytfcombimnmkoeaa.Q Go.Proofs.YtfcombimnmkoeaaW.PrintWords Go.Proofs.YtfcombimnmkoeaaW.PrintLast Go.Proofs.YtfcombimnmkoeaaW.PrintMore ShCore EvA EvB EvC BatA
theorem bfits_f (a n : Int) : batch_fits.f a n = some (decide (n ≤ a ∧ a < 4611686018427387904)) := by
  unfold batch_fits.f
  split
  · congr 1
    exact decide_eq_decide.2 (by omega)
  · rw [decide_eq_false (by omega)]
theorem bmay_f (g st b : Int) (s : ByteArray) : batch_May.f g st b s = some (mayBt g st b s.size) := by
  unfold batch_May.f mayBt
  simp only [bfits_f, Option.bind_some]
  by_cases h1 : 1 ≤ g ∧ g < 4611686018427387904
  · rw [if_pos (decide_eq_true h1)]
    by_cases h2 : 0 ≤ st ∧ st < 4611686018427387904
    · rw [if_pos (decide_eq_true h2)]
      by_cases h3 : 0 ≤ b ∧ b < 4611686018427387904
      · rw [if_pos (decide_eq_true h3)]
        congr 1
        exact decide_eq_decide.2 (by omega)
      · rw [if_neg (by simpa using h3), decide_eq_false (by omega)]
    · rw [if_neg (by simpa using h2), decide_eq_false (by omega)]
  · rw [if_neg (by simpa using h1), decide_eq_false (by omega)]
end Go.Proofs.Ytfcombimnmkoeaa.BatM

/- Whether a batch may be, as the document says. For every input. -/
set_option linter.unusedVariables false
set_option linter.unusedSimpArgs false
namespace Go.Proofs.Ytfcombimnmkoeaa.BatN
open Go Go.RowKit Go.Proofs.Ytfcombimnmkoeaa.Q Go.Proofs.YtfcombimnmkoeaaW.PrintWords Go.Proofs.YtfcombimnmkoeaaW.PrintLast Go.Proofs.YtfcombimnmkoeaaW.PrintMore ShCore EvA EvB EvC EvQ BatA
theorem fitsE_dec (a : Int) : fitsE a = decide (0 ≤ a ∧ a < 4611686018427387904) := by
  by_cases h : fitsE a = true
  · rw [h, decide_eq_true ((fitsE_iff a).1 h)]
  · rw [Bool.not_eq_true] at h
    rw [h, decide_eq_false]
    intro h2
    rw [(fitsE_iff a).2 h2] at h
    exact absurd h (by simp)
theorem rbmay_f (g st b : Int) (s : ByteArray) : shuttlecockref05_May.f g st b s = some (mayBt g st b s.size) := by
  unfold shuttlecockref05_May.f mayBt
  simp only [rfits_f, fitsE_dec, Option.bind_some]
  by_cases h0 : g ≥ 1
  · rw [if_pos h0]
    by_cases h1 : 0 ≤ g ∧ g < 4611686018427387904
    · rw [if_pos (decide_eq_true h1)]
      by_cases h2 : 0 ≤ st ∧ st < 4611686018427387904
      · rw [if_pos (decide_eq_true h2)]
        by_cases h3 : 0 ≤ b ∧ b < 4611686018427387904
        · rw [if_pos (decide_eq_true h3)]
          congr 1
          exact decide_eq_decide.2 (by omega)
        · rw [if_neg (by simpa using h3), decide_eq_false (by omega)]
      · rw [if_neg (by simpa using h2), decide_eq_false (by omega)]
    · rw [if_neg (by simpa using h1), decide_eq_false (by omega)]
  · rw [if_neg h0, decide_eq_false (by omega)]
end Go.Proofs.Ytfcombimnmkoeaa.BatN

/- A batch's events, as they are told: plain lists. -/
set_option linter.unusedVariables false
set_option linter.unusedSimpArgs false
namespace Go.Proofs.Ytfcombimnmkoeaa.BatP
open Go Go.RowKit Go.Proofs.Ytfcombimnmkoeaa.Q Go.Proofs.YtfcombimnmkoeaaW.PrintWords Go.Proofs.YtfcombimnmkoeaaW.PrintLast Go.Proofs.YtfcombimnmkoeaaW.PrintMore ShCore EvA EvB BatA
theorem decT_pos (s : List UInt8) (p : Nat) (hp : p ≤ s.length) : decT s p = if (decS (s.drop p)).2.2 = 0 then ((decS (s.drop p)).1.f0, (decS (s.drop p)).1.f1, (decS (s.drop p)).1.f2, (decS (s.drop p)).1.f3, ((p + (decS (s.drop p)).2.1 : Nat) : Int), 0) else (0, 0, [], ⟨#[]⟩, 0, (((decS (s.drop p)).2.2 : Nat) : Int)) := by
  unfold decT
  rw [if_neg (by omega), Int.toNat_natCast]
  simp only [Int.natCast_add]
def evsO (r : List ES × List Int × Nat × Nat) (aE : List ES) (aT : List Int) : List ES × List Int × Int × Int :=
  if r.2.2.2 = 0 then (aE ++ r.1, aT ++ r.2.1, 0, 0) else ([], [], ((r.2.2.1 : Nat) : Int), ((r.2.2.2 : Nat) : Int))
theorem evsO_nil (n : Nat) (now : Int) (p : Nat) (aE : List ES) (aT : List Int) : evsO (evsD n now [] p) aE aT = (aE, aT, 0, 0) := by
  rw [evsD_nil]
  simp [evsO]
theorem drop_cons {s : List UInt8} {p : Nat} (h : p < s.length) : ∃ c u, s.drop p = c :: u := ⟨_, _, List.drop_eq_getElem_cons h⟩
/-- One more event. -/
theorem evsO_step {n : Nat} {now : Int} {u : List UInt8} {p : Nat} (aE : List ES) (aT : List Int) (hu : u ≠ []) (h1 : (decS u).2.2 = 0) (h2 : now + (decS u).1.f1 < 4611686018427387904) :
    evsO (evsD (n + 1) now u p) aE aT = evsO (evsD n (now + (decS u).1.f1) (u.drop (decS u).2.1) (p + (decS u).2.1)) (aE ++ [(decS u).1]) (aT ++ [now + (decS u).1.f1]) := by
  cases u with
  | nil => exact absurd rfl hu
  | cons c u =>
    conv => lhs; unfold evsD
    rw [if_pos h1, if_pos h2]
    unfold evsO
    by_cases h3 : (evsD n (now + (decS (c :: u)).1.f1) ((c :: u).drop (decS (c :: u)).2.1) (p + (decS (c :: u)).2.1)).2.2.2 = 0
    · simp only [if_pos h3, if_true, List.append_assoc, List.singleton_append]
    · simp only [if_neg h3]
theorem evsO_long {n : Nat} {now : Int} {u : List UInt8} {p : Nat} (aE : List ES) (aT : List Int) (hu : u ≠ []) (h1 : (decS u).2.2 = 0) (h2 : ¬ now + (decS u).1.f1 < 4611686018427387904) : evsO (evsD (n + 1) now u p) aE aT = ([], [], (p : Int), 11) := by
  cases u with
  | nil => exact absurd rfl hu
  | cons c u =>
    unfold evsD
    rw [if_pos h1, if_neg h2]
    rfl
theorem evsO_wrong {n : Nat} {now : Int} {u : List UInt8} {p : Nat} (aE : List ES) (aT : List Int) (hu : u ≠ []) (h1 : ¬ (decS u).2.2 = 0) : evsO (evsD (n + 1) now u p) aE aT = ([], [], (p : Int), (((decS u).2.2 : Nat) : Int)) := by
  cases u with
  | nil => exact absurd rfl hu
  | cons c u =>
    unfold evsD
    rw [if_neg h1]
    unfold evsO
    simp only
    rw [if_neg h1]
/-- A batch's events, as they are told. -/
def evsT (g st b : Int) (s : List UInt8) : List ES × List Int × Int × Int := if mayBt g st b s.length = true then evsO (evsD s.length b s 0) [] [] else ([], [], 0, 50)
theorem evsT_back {g st b : Int} {s : List UInt8} (h : (evsT g st b s).2.2.2 = 0) : mayBt g st b s.length = true ∧ ∃ E, evsT g st b s = (E, sums b E, 0, 0) ∧ (∀ e ∈ E, okE e) ∧ E.flatMap encE = s ∧ ∀ t ∈ sums b E, t < 4611686018427387904 := by
  unfold evsT at h ⊢
  by_cases hm : mayBt g st b s.length = true
  · rw [if_pos hm] at h ⊢
    unfold evsO at h ⊢
    by_cases h0 : (evsD s.length b s 0).2.2.2 = 0
    · obtain ⟨i1, i2, i3, i4, i5⟩ := evsD_back _ _ _ _ h0
      refine ⟨hm, (evsD s.length b s 0).1, ?_, i1, i2, by rw [← i3]; exact i4⟩
      rw [if_pos h0, List.nil_append, List.nil_append, i3]
    · rw [if_neg h0] at h
      simp only at h
      omega
  · rw [if_neg hm] at h
    simp at h
theorem evsT_wrong {g st b : Int} {s : List UInt8} (h : ¬ (evsT g st b s).2.2.2 = 0) : (evsT g st b s).1 = [] ∧ (evsT g st b s).2.1 = [] ∧ (evsT g st b s).2.2.1 ≤ s.length := by
  unfold evsT at h ⊢
  by_cases hm : mayBt g st b s.length = true
  · rw [if_pos hm] at h ⊢
    unfold evsO at h ⊢
    by_cases h0 : (evsD s.length b s 0).2.2.2 = 0
    · rw [if_pos h0] at h
      simp at h
    · rw [if_neg h0]
      have := (evsD_wrong _ _ _ _ h0).2.2
      refine ⟨rfl, rfl, ?_⟩
      simp only
      omega
  · rw [if_neg hm]
    refine ⟨rfl, rfl, ?_⟩
    simp only
    omega
end Go.Proofs.Ytfcombimnmkoeaa.BatP

/- A batch's bytes, and the batch at the head of any bytes: plain lists alone. -/
set_option linter.unusedVariables false
set_option linter.unusedSimpArgs false
namespace Go.Proofs.Ytfcombimnmkoeaa.BatC
open Go Go.RowKit Go.Proofs.Ytfcombimnmkoeaa.Q Go.Proofs.YtfcombimnmkoeaaW.PrintWords Go.Proofs.YtfcombimnmkoeaaW.PrintLast Go.Proofs.YtfcombimnmkoeaaW.PrintMore ShCore EvA EvB EvC BatA
/-! ### three numbers and a text -/
def dec4 (u : List UInt8) : (Int × Int × Int × List UInt8) × Nat × Nat :=
  if (argsD 3 u).2.2 = 0 then
    (if (textD (u.drop (argsD 3 u).2.1)).2.2 = 0 then (((argsD 3 u).1.getD 0 0, (argsD 3 u).1.getD 1 0, (argsD 3 u).1.getD 2 0, (textD (u.drop (argsD 3 u).2.1)).1), (argsD 3 u).2.1 + (textD (u.drop (argsD 3 u).2.1)).2.1, 0)
    else ((0, 0, 0, []), 0, (textD (u.drop (argsD 3 u).2.1)).2.2))
  else ((0, 0, 0, []), 0, (argsD 3 u).2.2)
def enc4 (g st b : Int) (s : List UInt8) : List UInt8 := [g, st, b].flatMap put ++ text s
theorem three {l : List Int} (h : l.length = 3) : l = [l.getD 0 0, l.getD 1 0, l.getD 2 0] := by
  match l, h with
  | [a, b, c], _ => rfl
theorem dec4_back (u : List UInt8) (h : (dec4 u).2.2 = 0) : fitsE (dec4 u).1.1 = true ∧ fitsE (dec4 u).1.2.1 = true ∧ fitsE (dec4 u).1.2.2.1 = true ∧ (dec4 u).1.2.2.2.length < 4611686018427387904 ∧ enc4 (dec4 u).1.1 (dec4 u).1.2.1 (dec4 u).1.2.2.1 (dec4 u).1.2.2.2 = u.take (dec4 u).2.1 ∧ (dec4 u).2.1 ≤ u.length := by
  unfold dec4 at h ⊢
  by_cases h1 : (argsD 3 u).2.2 = 0
  · rw [if_pos h1] at h ⊢
    obtain ⟨a1, a2, a3, a4⟩ := argsD_back 3 u h1
    by_cases h2 : (textD (u.drop (argsD 3 u).2.1)).2.2 = 0
    · rw [if_pos h2]
      obtain ⟨t1, t2, t3⟩ := textD_back _ h2
      rw [List.length_drop] at t3
      have e3 := three a1
      generalize (argsD 3 u).1 = l at a1 a2 a3 e3
      rw [e3] at a2 a3
      refine ⟨a2 _ (by simp), a2 _ (by simp), a2 _ (by simp), t1, ?_, by simp only; omega⟩
      unfold enc4
      rw [a3, t2, List.take_add]
    · rw [if_neg h2] at h
      exact absurd h h2
  · rw [if_neg h1] at h
    exact absurd h h1
/-! ### read by a reader -/
theorem rdNum_stuck (s : List UInt8) {a e f : Int} (h : e ≠ 0) : rdNum s ⟨a, e, f⟩ = (0, ⟨a, e, f⟩) := by unfold rdNum; rw [if_neg h]
theorem rdText_stuck (s : List UInt8) {a e f : Int} (h : e ≠ 0) : rdText s ⟨a, e, f⟩ = ([], ⟨a, e, f⟩) := by unfold rdText; rw [if_neg h]
def rd4 (s : List UInt8) (r : Rd) : Int × Int × Int × List UInt8 × Rd :=
  ((rdNum s r).1, (rdNum s (rdNum s r).2).1, (rdNum s (rdNum s (rdNum s r).2).2).1, (rdText s (rdNum s (rdNum s (rdNum s r).2).2).2).1, (rdText s (rdNum s (rdNum s (rdNum s r).2).2).2).2)
theorem argsD_no {n : Nat} {u : List UInt8} (h : ¬ (tkh u).2.2 = 0) : argsD (n + 1) u = ([], 0, (tkh u).2.2) := by
  unfold argsD
  rw [if_neg h]
theorem argsD_yes {n : Nat} {u : List UInt8} (h : (tkh u).2.2 = 0) : argsD (n + 1) u = if (argsD n (u.drop (tkh u).2.1)).2.2 = 0 then (((tkh u).1 : Int) :: (argsD n (u.drop (tkh u).2.1)).1, (tkh u).2.1 + (argsD n (u.drop (tkh u).2.1)).2.1, 0) else ([], 0, (argsD n (u.drop (tkh u).2.1)).2.2) := by
  conv => lhs; unfold argsD
  rw [if_pos h]
theorem rd4_pos (s : List UInt8) (q : Nat) (hq : q ≤ s.length) (f : Int) :
    (rd4 s ⟨q, 0, f⟩).2.2.2.2.e = (((dec4 (s.drop q)).2.2 : Nat) : Int) ∧ ((dec4 (s.drop q)).2.2 = 0 → rd4 s ⟨q, 0, f⟩ = ((dec4 (s.drop q)).1.1, (dec4 (s.drop q)).1.2.1, (dec4 (s.drop q)).1.2.2.1, (dec4 (s.drop q)).1.2.2.2, ⟨((q + (dec4 (s.drop q)).2.1 : Nat) : Int), 0, f⟩)) := by
  have e1 := rdNum_pos s q hq f
  by_cases h1 : (tkh (s.drop q)).2.2 = 0
  · rw [if_pos h1] at e1
    obtain ⟨_, _, _, b4, _, _⟩ := tkh_back _ h1
    rw [List.length_drop] at b4
    have e2 := rdNum_pos s (q + (tkh (s.drop q)).2.1) (by omega) f
    rw [← List.drop_drop] at e2
    generalize hu1 : (s.drop q).drop (tkh (s.drop q)).2.1 = u1 at e2
    have hl1 : u1.length = s.length - (q + (tkh (s.drop q)).2.1) := by rw [← hu1, List.length_drop, List.length_drop]; omega
    by_cases h2 : (tkh u1).2.2 = 0
    · rw [if_pos h2] at e2
      obtain ⟨_, _, _, c4, _, _⟩ := tkh_back _ h2
      have e3 := rdNum_pos s (q + (tkh (s.drop q)).2.1 + (tkh u1).2.1) (by omega) f
      rw [← List.drop_drop, ← List.drop_drop, hu1] at e3
      generalize hu2 : u1.drop (tkh u1).2.1 = u2 at e3
      have hl2 : u2.length = s.length - (q + (tkh (s.drop q)).2.1 + (tkh u1).2.1) := by rw [← hu2, List.length_drop, hl1]; omega
      by_cases h3 : (tkh u2).2.2 = 0
      · rw [if_pos h3] at e3
        obtain ⟨_, _, _, d4, _, _⟩ := tkh_back _ h3
        have hA : argsD 3 (s.drop q) = ([((tkh (s.drop q)).1 : Int), ((tkh u1).1 : Int), ((tkh u2).1 : Int)], (tkh (s.drop q)).2.1 + ((tkh u1).2.1 + ((tkh u2).2.1 + 0)), 0) := by
          rw [argsD_yes h1, hu1, argsD_yes h2, hu2, argsD_yes h3]
          rfl
        have e4 := rdText_pos s (q + (tkh (s.drop q)).2.1 + (tkh u1).2.1 + (tkh u2).2.1) (by omega) f
        have hd : (s.drop q).drop ((tkh (s.drop q)).2.1 + ((tkh u1).2.1 + ((tkh u2).2.1 + 0))) = s.drop (q + (tkh (s.drop q)).2.1 + (tkh u1).2.1 + (tkh u2).2.1) := by
          rw [List.drop_drop]
          congr 1
          omega
        have hr : rd4 s ⟨q, 0, f⟩ = (((tkh (s.drop q)).1 : Int), ((tkh u1).1 : Int), ((tkh u2).1 : Int), (rdText s ⟨((q + (tkh (s.drop q)).2.1 + (tkh u1).2.1 + (tkh u2).2.1 : Nat) : Int), 0, f⟩).1, (rdText s ⟨((q + (tkh (s.drop q)).2.1 + (tkh u1).2.1 + (tkh u2).2.1 : Nat) : Int), 0, f⟩).2) := by
          unfold rd4
          simp only [e1, e2, e3]
        unfold dec4
        rw [hr, hA]
        simp only [if_true]
        rw [hd, e4]
        by_cases h4 : (textD (s.drop (q + (tkh (s.drop q)).2.1 + (tkh u1).2.1 + (tkh u2).2.1))).2.2 = 0
        · rw [if_pos h4, if_pos h4]
          refine ⟨rfl, fun _ => ?_⟩
          simp only [List.getD_cons_zero, List.getD_cons_succ, Prod.mk.injEq, true_and, Rd.mk.injEq, and_true]
          omega
        · rw [if_neg h4, if_neg h4]
          exact ⟨rfl, fun h => absurd h h4⟩
      · rw [if_neg h3] at e3
        have hA : argsD 3 (s.drop q) = ([], 0, (tkh u2).2.2) := by
          rw [argsD_yes h1, hu1, argsD_yes h2, hu2, argsD_no h3]
          simp only
          rw [if_neg h3]
          simp only
          rw [if_neg h3]
        have he : (((tkh u2).2.2 : Nat) : Int) ≠ 0 := by omega
        unfold dec4 rd4
        simp only [e1, e2, e3, rdText_stuck s he, hA]
        rw [if_neg h3]
        exact ⟨rfl, fun h => absurd h h3⟩
    · rw [if_neg h2] at e2
      have hA : argsD 3 (s.drop q) = ([], 0, (tkh u1).2.2) := by
        rw [argsD_yes h1, hu1, argsD_no h2]
        simp only
        rw [if_neg h2]
      have he : (((tkh u1).2.2 : Nat) : Int) ≠ 0 := by omega
      unfold dec4 rd4
      simp only [e1, e2, rdNum_stuck s he, rdText_stuck s he, hA]
      rw [if_neg h2]
      exact ⟨rfl, fun h => absurd h h2⟩
  · rw [if_neg h1] at e1
    have hA : argsD 3 (s.drop q) = ([], 0, (tkh (s.drop q)).2.2) := argsD_no h1
    have he : (((tkh (s.drop q)).2.2 : Nat) : Int) ≠ 0 := by omega
    unfold dec4 rd4
    simp only [e1, rdNum_stuck s he, rdText_stuck s he, hA]
    rw [if_neg h1]
    exact ⟨rfl, fun h => absurd h h1⟩
/-! ### a batch -/
def encB (g st b : Int) (s : List UInt8) : List UInt8 := if mayBt g st b s.length = true then 66 :: enc4 g st b s else []
def decB : List UInt8 → (Int × Int × Int × List UInt8) × Nat × Nat
  | [] => ((0, 0, 0, []), 0, 10)
  | c :: u => if c = 66 then
      (if (dec4 u).2.2 = 0 then
        (if mayBt (dec4 u).1.1 (dec4 u).1.2.1 (dec4 u).1.2.2.1 (dec4 u).1.2.2.2.length = true then ((dec4 u).1, 1 + (dec4 u).2.1, 0) else ((0, 0, 0, []), 0, 50))
      else ((0, 0, 0, []), 0, (dec4 u).2.2))
    else ((0, 0, 0, []), 0, 50)
theorem decB_cons (c : UInt8) (u : List UInt8) : decB (c :: u) = if c = 66 then
      (if (dec4 u).2.2 = 0 then
        (if mayBt (dec4 u).1.1 (dec4 u).1.2.1 (dec4 u).1.2.2.1 (dec4 u).1.2.2.2.length = true then ((dec4 u).1, 1 + (dec4 u).2.1, 0) else ((0, 0, 0, []), 0, 50))
      else ((0, 0, 0, []), 0, (dec4 u).2.2))
    else ((0, 0, 0, []), 0, 50) := rfl
theorem may_fits {g st b : Int} {n : Nat} (h : mayBt g st b n = true) : fitsE g = true ∧ fitsE st = true ∧ fitsE b = true ∧ n < 4611686018427387904 := by
  rw [mayBt_iff] at h
  simp only [fitsE_iff]
  omega
/-- The batch at a place, as it is told. -/
def decBT (s : List UInt8) (p : Int) : Int × Int × Int × ByteArray × Int × Int :=
  if p < 0 ∨ p > s.length then (0, 0, 0, ⟨#[]⟩, 0, 1) else
    if (decB (s.drop p.toNat)).2.2 = 0 then ((decB (s.drop p.toNat)).1.1, (decB (s.drop p.toNat)).1.2.1, (decB (s.drop p.toNat)).1.2.2.1, arr (decB (s.drop p.toNat)).1.2.2.2, p + (decB (s.drop p.toNat)).2.1, 0)
    else (0, 0, 0, ⟨#[]⟩, 0, ((decB (s.drop p.toNat)).2.2 : Nat))
end Go.Proofs.Ytfcombimnmkoeaa.BatC

/- What the program's batch functions come to. For every input within the machine's sizes. -/
set_option linter.unusedVariables false
set_option linter.unusedSimpArgs false
namespace Go.Proofs.Ytfcombimnmkoeaa.BatD
open Go Go.RowKit Go.Proofs.Ytfcombimnmkoeaa.Q Go.Proofs.YtfcombimnmkoeaaW.PrintWords Go.Proofs.YtfcombimnmkoeaaW.PrintLast Go.Proofs.YtfcombimnmkoeaaW.PrintMore ShCore EvA EvB EvC BatA BatM BatP BatC
theorem enc_join (g st b : Int) (s : ByteArray) (h : mayBt g st b s.size = true) : ((⟨#[66]⟩ : ByteArray) ++ arr (numsL [g, st, b])) ++ arr (text (lst s)) = arr (66 :: enc4 g st b (lst s)) := by
  obtain ⟨h1, h2, h3, h4⟩ := may_fits h
  apply lst_inj
  rw [lst_append, lst_append, lst_arr, lst_arr, lst_arr, numsL_fit (l := [g, st, b]) (by simp [h1, h2, h3])]
  rfl
theorem encEv (g st b : Int) (s : ByteArray) : Ev (fun k => batch_Encode.f k g st b s) (arr (encB g st b (lst s))) := by
  unfold batch_Encode.f encB
  refine Ev.bind (evC (bmay_f ..)) ?_
  rw [lst_length]
  by_cases h : mayBt g st b s.size = true
  · rw [if_pos h]
    refine evYes h ?_
    have h9 := nums_size [g, st, b]
    have h8 := text_len (lst s)
    rw [lst_length] at h8
    have hm := (mayBt_iff ..).1 h
    simp only [List.length_cons, List.length_nil] at h9
    refine Ev.bind (wire_Nums.ev [g, st, b] (by simp)) (evYes (by rw [size_arr]; omega) (Ev.bind (wire_Text.ev s (by omega)) (evYes ?_ (evC ?_))))
    · rw [size_append', size_arr, size_arr]
      have : (⟨#[66]⟩ : ByteArray).size = 1 := rfl
      omega
    · rw [enc_join g st b s h]
  · rw [if_neg h]
    exact evNo h (Ev.now _)
/-! ### reading -/
def fin4 (p : Int) (v : Int × Int × Int × List UInt8 × Rd) : Int × Int × Int × ByteArray × Int × Int :=
  if v.2.2.2.2.e = 0 then (if mayBt v.1 v.2.1 v.2.2.1 v.2.2.2.1.length = true then (v.1, v.2.1, v.2.2.1, arr v.2.2.2.1, wrap64 (p + v.2.2.2.2.a), 0) else (0, 0, 0, ⟨#[]⟩, 0, 50)) else (0, 0, 0, ⟨#[]⟩, 0, v.2.2.2.2.e)
theorem dec_j1 (u : ByteArray) (hu : u.size < 4611686018427387904) (r : Rd) (hr : r.ok (lst u)) (p : Int) : Ev (fun k => batch_Decode.j1 k p false u r.a r.e r.f) (fin4 p (rd4 (lst u) r)) := by
  have k1 := rdNum_ok hr
  have k2 := rdNum_ok k1
  have k3 := rdNum_ok k2
  refine Ev.step (fun k => batch_Decode.j1.eq_2 ..) (evNo (by simp) ?_)
  refine Ev.bind (wire_Reader_Num.ev u r hu) (Ev.bind (wire_Reader_Num.ev u (rdNum (lst u) r).2 hu) (Ev.bind (wire_Reader_Num.ev u (rdNum (lst u) (rdNum (lst u) r).2).2 hu) (Ev.bind (wire_Reader_Text.ev u (rdNum (lst u) (rdNum (lst u) (rdNum (lst u) r).2).2).2 hu k3) (Ev.bind (evC rfl) ?_))))
  unfold fin4 rd4
  simp only
  by_cases h : (rdText (lst u) (rdNum (lst u) (rdNum (lst u) (rdNum (lst u) r).2).2).2).2.e = 0
  · rw [if_pos h]
    refine evYes h (Ev.bind (evC (bmay_f ..)) ?_)
    rw [size_arr]
    cases hm : mayBt (rdNum (lst u) r).1 (rdNum (lst u) (rdNum (lst u) r).2).1 (rdNum (lst u) (rdNum (lst u) (rdNum (lst u) r).2).2).1 (rdText (lst u) (rdNum (lst u) (rdNum (lst u) (rdNum (lst u) r).2).2).2).1.length with
    | false =>
      simp only [Bool.false_eq_true, if_false]
      exact Ev.step (fun k => batch_Decode.j2.eq_2 ..) (evYes rfl (Ev.now _))
    | true =>
      simp only [if_true]
      exact Ev.step (fun k => batch_Decode.j2.eq_2 ..) (evNo (by simp) (evYes h (Ev.bind (evC rfl) (Ev.now _))))
  · rw [if_neg h]
    refine evNo h ?_
    exact Ev.step (fun k => batch_Decode.j2.eq_2 ..) (evNo (by simp) (evNo h (Ev.now _)))
theorem fin4_dec (p : Int) (s : List UInt8) (q : Nat) (hq : q ≤ s.length) (f : Int) (l : List UInt8) (hl : s.drop q = l) (o : Int) (ho : ∀ n : Nat, n ≤ l.length → wrap64 (p + ((q + n : Nat) : Int)) = o + ((1 + n : Nat) : Int)) :
    fin4 p (rd4 s ⟨q, 0, f⟩) = if (decB (66 :: l)).2.2 = 0 then ((decB (66 :: l)).1.1, (decB (66 :: l)).1.2.1, (decB (66 :: l)).1.2.2.1, arr (decB (66 :: l)).1.2.2.2, o + (decB (66 :: l)).2.1, 0) else (0, 0, 0, ⟨#[]⟩, 0, (((decB (66 :: l)).2.2 : Nat) : Int)) := by
  obtain ⟨r1, r2⟩ := rd4_pos s q hq f
  rw [hl] at r1 r2
  rw [decB_cons]
  simp only [if_true]
  unfold fin4
  by_cases h1 : (dec4 l).2.2 = 0
  · have hb := (dec4_back l h1).2.2.2.2.2
    rw [r2 h1, if_pos h1]
    simp only [if_true]
    by_cases h2 : mayBt (dec4 l).1.1 (dec4 l).1.2.1 (dec4 l).1.2.2.1 (dec4 l).1.2.2.2.length = true
    · rw [if_pos h2, if_pos h2, ho _ hb]
      simp only [if_true]
    · rw [if_neg h2, if_neg h2]
      rfl
  · rw [if_neg h1, r1, if_neg (by omega)]
    simp only
    rw [if_neg h1]
theorem drop_ext (s : ByteArray) (p : Nat) : lst (s.extract p s.size) = (lst s).drop p := by
  rw [lst_extract, List.take_of_length_le]
  rw [List.length_drop, lst_length]
  omega
theorem decEv (s : ByteArray) (p : Int) (hs : s.size < 4611686018427387904) : Ev (fun k => batch_Decode.f k s p) (decBT (lst s) p) := by
  unfold batch_Decode.f decBT
  have hl := lst_length s
  by_cases c1 : p < 0
  · rw [if_pos (.inl c1)]
    exact evYes c1 (Ev.step (fun k => batch_Decode.j0.eq_2 ..) (evYes rfl (Ev.now _)))
  refine evNo c1 ?_
  by_cases c2 : p > (s.size : Int)
  · rw [decide_eq_true c2, if_pos (.inr (by rw [hl]; exact c2))]
    exact Ev.step (fun k => batch_Decode.j0.eq_2 ..) (evYes rfl (Ev.now _))
  rw [decide_eq_false c2, if_neg (by rw [hl]; omega)]
  refine Ev.step (fun k => batch_Decode.j0.eq_2 ..) (evNo (by simp) (evYes (by omega) (evYes (by omega) ?_)))
  have eu := drop_ext s p.toNat
  generalize hu0 : s.extract p.toNat s.size = u at eu
  have hu : u.size < 4611686018427387904 := by
    rw [← lst_length, eu, List.length_drop, hl]
    omega
  refine Ev.bind (evC (show wire_New.f _ = some (u, 0, 0, 0) from rfl)) ?_
  cases hc : (lst s).drop p.toNat with
  | nil =>
    rw [hc] at eu
    refine Ev.bind (evC (rByte u 0 0 0 hu ⟨by simp, by simp⟩ (n := 0) (a' := 0) (e' := 10) (f' := 0) (by rw [eu]; rfl))) (Ev.bind (evC rfl) (evNo (by simp) ?_))
    have h := dec_j1 u hu ⟨0, 10, 0⟩ ⟨by simp, by simp⟩ p
    rw [eu] at h
    exact h
  | cons c l =>
    rw [hc] at eu
    refine Ev.bind (evC (rByte u 0 0 0 hu ⟨by simp, by simp⟩ (n := (c.toNat : Int)) (a' := 1) (e' := 0) (f' := 0) (by rw [eu]; exact rdByte_head c l))) (Ev.bind (evC rfl) (evYes rfl ?_))
    by_cases hB : c = 66
    · subst hB
      have hlen : (lst u).length = l.length + 1 := by rw [eu]; rfl
      have hlen2 := congrArg List.length hc
      rw [List.length_drop, List.length_cons, hl] at hlen2
      have h := dec_j1 u hu ⟨1, 0, 0⟩ ⟨by simp, by simp only; omega⟩ p
      have e := fin4_dec p (lst u) 1 (by omega) 0 l (by rw [eu]; rfl) p (fun n hn => by rw [wrap64_of (by omega) (by omega)])
      rw [show ((1 : Nat) : Int) = 1 from rfl] at e
      rw [e] at h
      exact h
    · have hne : ((c.toNat : Int) != 66) = true := by
        rw [bne_iff_ne]
        intro e
        exact hB (UInt8.toNat_inj.1 (by simp; omega))
      simp only [hne]
      rw [decB_cons, if_neg hB]
      exact Ev.step (fun k => batch_Decode.j1.eq_2 ..) (evYes rfl (Ev.now _))
/-! ### events -/
theorem evs0 (g st b : Int) (s : ByteArray) (hs : s.size ≤ 1000000) : ∀ (n : Nat) (now : Int) (p : Nat) (aE : List ES) (aT : List Int), 0 ≤ now → now < 4611686018427387904 → p ≤ s.size → s.size - p ≤ n → aE.length ≤ p → aT.length ≤ p →
    Ev (fun k => batch_Events.l0 k aE aT now p g st b s) (evsO (evsD n now ((lst s).drop p) p) aE aT) := by
  have hl := lst_length s
  have stop : ∀ (n : Nat) (now : Int) (p : Nat) (aE : List ES) (aT : List Int), p = s.size → Ev (fun k => batch_Events.l0 k aE aT now p g st b s) (evsO (evsD n now ((lst s).drop p) p) aE aT) := by
    intro n now p aE aT hp
    rw [List.drop_eq_nil_of_le (by omega), evsO_nil]
    exact Ev.step (fun k => batch_Events.l0.eq_2 ..) (evNo (by omega) (Ev.now _))
  intro n
  induction n with
  | zero => exact fun now p aE aT _ _ hp hn _ _ => stop 0 now p aE aT (by omega)
  | succ n ih =>
    intro now p aE aT h0 hM hp hn hE hT
    by_cases c : p = s.size
    · exact stop _ now p aE aT c
    have hu : (lst s).drop p ≠ [] := by
      obtain ⟨c, u, e⟩ := drop_cons (s := lst s) (p := p) (by omega)
      rw [e]
      simp
    have ew2 : wrap64 (4611686018427387904 - now) = 4611686018427387904 - now := wrap64_of (by omega) (by omega)
    refine Ev.step (fun k => batch_Events.l0.eq_2 ..) (evYes (by omega) (Ev.bind (Decode.ev s p (by omega)) ?_))
    rw [decT_pos _ _ (by omega)]
    by_cases h1 : (decS ((lst s).drop p)).2.2 = 0
    · rw [if_pos h1]
      obtain ⟨b1, b2, b3, b4, b5⟩ := decS_back _ h1
      have hf := fitsDt (e := (decS ((lst s).drop p)).1) ⟨b1, b5⟩
      rw [List.length_drop] at b3
      have ew : wrap64 (now + (decS ((lst s).drop p)).1.f1) = now + (decS ((lst s).drop p)).1.f1 := wrap64_of (by omega) (by omega)
      refine evYes rfl ?_
      simp only [ew2]
      by_cases h2 : now + (decS ((lst s).drop p)).1.f1 < 4611686018427387904
      · have i1 := ih (now + (decS ((lst s).drop p)).1.f1) (p + (decS ((lst s).drop p)).2.1) (aE ++ [(decS ((lst s).drop p)).1]) (aT ++ [now + (decS ((lst s).drop p)).1.f1]) (by omega) h2 (by omega) (by omega) (by rw [List.length_append, List.length_singleton]; omega) (by rw [List.length_append, List.length_singleton]; omega)
        rw [← List.drop_drop, ← evsO_step aE aT hu h1 h2] at i1
        have hdec : decide ((decS ((lst s).drop p)).1.f1 ≥ 4611686018427387904 - now) = false := decide_eq_false (by omega)
        simp only [hdec]
        refine Ev.step (fun k => batch_Events.j1.eq_2 ..) (evNo (by simp) (evYes rfl (evYes (by omega) (evYes (by omega) ?_))))
        simp only [ew]
        exact i1
      · have hdec : decide ((decS ((lst s).drop p)).1.f1 ≥ 4611686018427387904 - now) = true := decide_eq_true (by omega)
        simp only [hdec]
        rw [evsO_long aE aT hu h1 h2]
        exact Ev.step (fun k => batch_Events.j1.eq_2 ..) (evYes rfl (Ev.now _))
    · rw [if_neg h1, evsO_wrong aE aT hu h1]
      refine evNo (by simp only; omega) ?_
      exact Ev.step (fun k => batch_Events.j1.eq_2 ..) (evNo (by simp) (evNo (by simp only; omega) (Ev.now _)))
theorem evsEv (g st b : Int) (s : ByteArray) : Ev (fun k => batch_Events.f k g st b s) (evsT g st b (lst s)) := by
  unfold batch_Events.f evsT
  refine Ev.bind (evC (bmay_f ..)) ?_
  rw [lst_length]
  by_cases h : mayBt g st b s.size = true
  · rw [if_pos h]
    refine evYes h ?_
    rw [mayBt_iff] at h
    have := evs0 g st b s (by omega) s.size b 0 [] [] (by omega) (by omega) (by omega) (by omega) (by simp) (by simp)
    rw [List.drop_zero] at this
    exact this
  · rw [if_neg h]
    exact evNo h (Ev.now _)
theorem ev_fixed05 : Ev (fun k => shuttlecocklaw05_fixed.f k) true := Ev.of shuttlecocklaw05_fixed.mono (k := 60) (by decide +kernel)
end Go.Proofs.Ytfcombimnmkoeaa.BatD

/- What the document's batch functions come to. For every input within the machine's sizes. -/
set_option linter.unusedVariables false
set_option linter.unusedSimpArgs false
namespace Go.Proofs.Ytfcombimnmkoeaa.BatF
open Go Go.RowKit Go.Proofs.Ytfcombimnmkoeaa.Q Go.Proofs.YtfcombimnmkoeaaW.PrintWords Go.Proofs.YtfcombimnmkoeaaW.PrintLast Go.Proofs.YtfcombimnmkoeaaW.PrintMore ShCore EvA EvB EvC EvQ BatA BatM BatN BatP BatC BatD RefT
theorem rencEv (g st b : Int) (s : ByteArray) : Ev (fun k => shuttlecockref05_Encode.f k g st b s) (arr (encB g st b (lst s))) := by
  unfold shuttlecockref05_Encode.f encB
  refine Ev.bind (evC (rbmay_f ..)) ?_
  rw [lst_length]
  by_cases h : mayBt g st b s.size = true
  · rw [if_pos h]
    refine evYes h ?_
    have h9 := nums_size [g, st, b]
    have h8 := text_len (lst s)
    rw [lst_length] at h8
    have hm := (mayBt_iff ..).1 h
    simp only [List.length_cons, List.length_nil] at h9
    refine Ev.bind (rNums [g, st, b] (by simp)) (evYes (by rw [size_arr]; omega) (Ev.bind (rText s (by omega)) (evYes ?_ (evC ?_))))
    · rw [size_append', size_arr, size_arr]
      have : (⟨#[66]⟩ : ByteArray).size = 1 := rfl
      omega
    · rw [enc_join g st b s h]
  · rw [if_neg h]
    exact evNo h (Ev.now _)
theorem rdecEv (s : ByteArray) (p : Int) (hs : s.size < 4611686018427387904) : Ev (fun k => shuttlecockref05_Decode.f k s p) (decBT (lst s) p) := by
  unfold shuttlecockref05_Decode.f decBT
  have hl := lst_length s
  by_cases c1 : p < 0
  · rw [if_pos (.inl c1)]
    exact evYes c1 (Ev.step (fun k => shuttlecockref05_Decode.j0.eq_2 ..) (evYes rfl (Ev.now _)))
  refine evNo c1 ?_
  by_cases c2 : p > (s.size : Int)
  · rw [decide_eq_true c2, if_pos (.inr (by rw [hl]; exact c2))]
    exact Ev.step (fun k => shuttlecockref05_Decode.j0.eq_2 ..) (evYes rfl (Ev.now _))
  rw [decide_eq_false c2, if_neg (by rw [hl]; omega)]
  obtain ⟨q, rfl⟩ : ∃ q : Nat, p = q := ⟨p.toNat, by omega⟩
  refine Ev.step (fun k => shuttlecockref05_Decode.j0.eq_2 ..) (evNo (by simp) ?_)
  rw [Int.toNat_natCast]
  by_cases c3 : (q : Int) = (s.size : Int)
  · rw [List.drop_eq_nil_of_le (by omega)]
    exact evYes c3 (Ev.now _)
  refine evNo c3 (evYes (by omega) (evYes (by omega) ?_))
  obtain ⟨c, hc, hb⟩ := drop_bt s q (by omega)
  rw [hc]
  by_cases hB : c = 66
  · subst hB
    refine evYes (by rw [hb]; rfl) ?_
    have e1 : wrap64 ((q : Int) + 1) = ((q + 1 : Nat) : Int) := by rw [wrap64_of (by omega) (by omega)]; omega
    rw [e1]
    have ok0 : Rd.ok (lst s) ⟨((q + 1 : Nat) : Int), 0, 0⟩ := ⟨by simp only; omega, by simp only; omega⟩
    have in0 : rdInv ⟨((q + 1 : Nat) : Int), 0, 0⟩ := .inl rfl
    have k1 := rdNum_ok ok0
    have k2 := rdNum_ok k1
    have k3 := rdNum_ok k2
    have i1 := rdInv_num (s := lst s) in0
    have i2 := rdInv_num (s := lst s) i1
    have i3 := rdInv_num (s := lst s) i2
    have hlen2 := congrArg List.length hc
    rw [List.length_drop, List.length_cons, hl] at hlen2
    have hd : (lst s).drop (q + 1) = (lst s).drop (q + 1) := rfl
    have e := fin4_dec 0 (lst s) (q + 1) (by omega) 0 _ hd (q : Int) (fun n hn => by rw [List.length_drop, hl] at hn; rw [wrap64_of (by omega) (by omega)]; omega)
    rw [← e]
    have e2 := rd4_pos (lst s) (q + 1) (by omega) 0
    clear e
    generalize hA : rdNum (lst s) ⟨((q + 1 : Nat) : Int), 0, 0⟩ = A at k1 k2 k3 i1 i2 i3
    obtain ⟨n1, a1, x1, f1⟩ := A
    simp only at k1 k2 k3 i1 i2 i3
    generalize hB : rdNum (lst s) ⟨a1, x1, f1⟩ = B at k2 k3 i2 i3
    obtain ⟨n2, a2, x2, f2⟩ := B
    simp only at k2 k3 i2 i3
    generalize hC : rdNum (lst s) ⟨a2, x2, f2⟩ = C at k3 i3
    obtain ⟨n3, a3, x3, f3⟩ := C
    simp only at k3 i3
    generalize hD : rdText (lst s) ⟨a3, x3, f3⟩ = D
    obtain ⟨tx, a4, x4, f4⟩ := D
    have hr : rd4 (lst s) ⟨((q + 1 : Nat) : Int), 0, 0⟩ = (n1, n2, n3, tx, ⟨a4, x4, f4⟩) := by
      unfold rd4
      simp only [hA, hB, hC, hD]
    rw [hr] at e2 ⊢
    simp only at e2
    refine Ev.bind (refNum s _ _ _ hs hA) (Ev.bind (refNum s a1 x1 f1 hs hB) (Ev.bind (refNum s a2 x2 f2 hs hC) (Ev.bind (refText s a3 x3 f3 hs k3 i3 hD) ?_)))
    unfold fin4
    simp only
    by_cases h : x4 = 0
    · have h1 : (dec4 ((lst s).drop (q + 1))).2.2 = 0 := by
        have := e2.1
        omega
      have hb6 := (dec4_back _ h1).2.2.2.2.2
      rw [List.length_drop, hl] at hb6
      have ea : a4 = ((q + 1 + (dec4 ((lst s).drop (q + 1))).2.1 : Nat) : Int) := by
        have := e2.2 h1
        simp only [Prod.mk.injEq, Rd.mk.injEq] at this
        exact this.2.2.2.2.1
      refine evYes h (Ev.bind (evC (rbmay_f ..)) ?_)
      rw [if_pos h, size_arr]
      by_cases hm : mayBt n1 n2 n3 tx.length = true
      · refine evYes hm ?_
        rw [if_pos hm, show wrap64 (0 + a4) = a4 by rw [ea, wrap64_of (by omega) (by omega)]; omega]
        exact Ev.now _
      · refine evNo hm ?_
        rw [if_neg hm]
        exact Ev.now _
    · refine evNo h ?_
      rw [if_neg h]
      exact Ev.now _
  · refine evNo ?_ ?_
    · rw [hb]
      intro e
      exact hB (UInt8.toNat_inj.1 (by simp; omega))
    · rw [decB_cons, if_neg hB]
      exact Ev.now _
end Go.Proofs.Ytfcombimnmkoeaa.BatF

/- Lists of events held against each other. For every input. -/
set_option linter.unusedVariables false
set_option linter.unusedSimpArgs false
namespace Go.Proofs.Ytfcombimnmkoeaa.BatG
open Go Go.RowKit Go.Proofs.Ytfcombimnmkoeaa.Q Go.Proofs.YtfcombimnmkoeaaW.PrintWords Go.Proofs.YtfcombimnmkoeaaW.PrintLast Go.Proofs.YtfcombimnmkoeaaW.PrintMore ShCore EvA EvB EvC EvD BatA
/-! ### lists of events -/
theorem ok_args {e : ES} (h : okE e) : e.f2.length ≤ 3 := by
  have h3 := Kind.argsL_length e.f0
  rcases ((mayE_iff ..).1 h.1).2 with h | h
  · rw [h.2]
    simp
  · omega
instance decES : DecidableEq ES := fun a b => decidable_of_iff (a.f0 = b.f0 ∧ a.f1 = b.f1 ∧ a.f2 = b.f2 ∧ lst a.f3 = lst b.f3) ⟨fun h => es_ext h.1 h.2.1 h.2.2.1 h.2.2.2, fun h => by rw [h]; exact ⟨rfl, rfl, rfl, rfl⟩⟩
theorem all0 (l m : List ES) (hm : l.length = m.length) (hl : l.length ≤ 9000000000000000000) (ha : ∀ e ∈ l, e.f2.length ≤ 9223372036854775807) : ∀ (d i : Nat), i + d = l.length → Ev (fun k => shuttlecockref04_All.l0 k l m i) (decide (l.drop i = m.drop i))
  | 0, i, hi => by
    refine Ev.step (fun k => shuttlecockref04_All.l0.eq_2 ..) (evNo (by omega) (evC ?_))
    rw [List.drop_eq_nil_of_le (by omega), List.drop_eq_nil_of_le (by omega)]
    rfl
  | d + 1, i, hi => by
    have h : i < l.length := by omega
    have h' : i < m.length := by omega
    have ih := all0 l m hm hl ha d (i + 1) (by omega)
    refine Ev.step (fun k => shuttlecockref04_All.l0.eq_2 ..) (evYes (by omega) (evYes (by omega) (evYes (by omega) ?_)))
    rw [rdE h, rdE h', nxt (by omega), List.drop_eq_getElem_cons h, List.drop_eq_getElem_cons h']
    refine Ev.bind (Same.ev l[i] m[i] (ha _ (List.getElem_mem h))) ?_
    by_cases c : l[i] = m[i]
    · refine evYes (by rw [c]; simp) ?_
      simp only [c, List.cons.injEq, true_and]
      exact ih
    · refine evNo ?_ (evC ?_)
      · rw [decide_eq_true_eq]
        rintro ⟨a1, a2, a3, a4⟩
        exact c (es_ext a1 a2 a3 a4)
      · rw [decide_eq_false]
        intro e
        exact c (List.cons.inj e).1
theorem allEv (l m : List ES) (hl : l.length ≤ 9000000000000000000) (ha : ∀ e ∈ l, e.f2.length ≤ 9223372036854775807) : Ev (fun k => shuttlecockref04_All.f k l m) (decide (l = m)) := by
  unfold shuttlecockref04_All.f
  by_cases c : (l.length : Int) = (m.length : Int)
  · refine evYes c ?_
    exact all0 l m (by omega) hl ha l.length 0 (by omega)
  · refine evNo c (evC ?_)
    rw [decide_eq_false]
    intro e
    rw [e] at c
    exact c rfl
end Go.Proofs.Ytfcombimnmkoeaa.BatG
