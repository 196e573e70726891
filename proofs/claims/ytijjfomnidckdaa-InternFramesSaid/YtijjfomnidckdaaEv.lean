/- Several texts of this seat, one behind the other (merged by a program of this session: merge.py). -/
import Derived.Test.YtijjfomnidckdaaVw
import Derived.Test.YtijjfomnidckdaaQx3
import Derived.Test.YtijjfomnidckdaaQx5
import Derived.Test.YtijjfomnidckdaaQx4
import Derived.Test.YtijjfomnidckdaaQx6
import Derived.Test.YtijjfomnidckdaaQx8
import Derived.Test.YtijjfomnidckdaaQx9
import Derived.Test.YtijjfomnidckdaaQx7
/- Numbers of variable length as plain lists of bytes: what is put, what is taken, and that each undoes the other. No condition: plain lists and numbers alone, no program in sight. -/
namespace ShCore
open Go Go.RowKit Go.Proofs.YtijjfomnidckdaaW.PrintWords Go.Proofs.YtijjfomnidckdaaW.PrintMore

theorem evYes {α : Type} {c : Prop} [Decidable c] {g f : Nat → Option α} {r : α} (h : c) (k : Ev g r) : Ev (fun n => if c then g n else f n) r := by simpa only [if_pos h] using k
theorem evNo {α : Type} {c : Prop} [Decidable c] {g f : Nat → Option α} {r : α} (h : ¬ c) (k : Ev f r) : Ev (fun n => if c then g n else f n) r := by simpa only [if_neg h] using k
theorem evC {α : Type} {x : Option α} {a : α} (h : x = some a) : Ev (fun _ => x) a := ⟨0, fun _ _ => h⟩

/-! ### bytes -/
abbrev lst (s : ByteArray) : List UInt8 := s.data.toList
def arr (l : List UInt8) : ByteArray := ⟨l.toArray⟩
@[simp] theorem lst_arr (l : List UInt8) : lst (arr l) = l := by simp [lst, arr]
@[simp] theorem arr_lst (s : ByteArray) : arr (lst s) = s := by simp [lst, arr]
theorem lst_length (s : ByteArray) : (lst s).length = s.size := by rw [Array.length_toList]; rfl
theorem size_arr (l : List UInt8) : (arr l).size = l.length := by rw [← lst_length, lst_arr]
theorem lst_inj {a b : ByteArray} (h : lst a = lst b) : a = b := by rw [← arr_lst a, h, arr_lst]
theorem arr_inj {a b : List UInt8} (h : arr a = arr b) : a = b := by rw [← lst_arr a, h, lst_arr]
theorem toList_lst (s : ByteArray) : s.toList = lst s := ByteArray.toList_eq s
theorem lst_append (a b : ByteArray) : lst (a ++ b) = lst a ++ lst b := ByteArray.toList_data_append
theorem arr_append (a b : List UInt8) : arr a ++ arr b = arr (a ++ b) := lst_inj (by rw [lst_append]; simp)
theorem lst_extract (s : ByteArray) (i j : Nat) : lst (s.extract i j) = ((lst s).drop i).take (j - i) := by
  simp [lst, ByteArray.data_extract, List.extract_eq_take_drop]
theorem drop_bt (s : ByteArray) (i : Nat) (h : i < s.size) : ∃ c : UInt8, (lst s).drop i = c :: (lst s).drop (i + 1) ∧ bt s i = c.toNat := by
  have h' : i < (lst s).length := by rw [lst_length]; exact h
  refine ⟨(lst s)[i], List.drop_eq_getElem_cons h', ?_⟩
  unfold bt
  rw [dif_pos (by simpa using h)]
  rfl
theorem u8_ofNat (n : Nat) (h : n < 256) : (UInt8.ofNat n).toNat = n := by simp; omega
theorem u8_lt (c : UInt8) : c.toNat < 256 := c.toNat_lt
theorem u8_ext {a b : UInt8} (h : a.toNat = b.toNat) : a = b := UInt8.toNat_inj.1 h

/-! ### what is put -/
def putF : Nat → Nat → List UInt8
  | 0, n => [UInt8.ofNat n]
  | f + 1, n => if n < 128 then [UInt8.ofNat n] else UInt8.ofNat (128 + n % 128) :: putF f (n / 128)
def put (n : Int) : List UInt8 := if n < 0 ∨ n ≥ 4611686018427387904 then [] else putF 8 n.toNat
/-- What is taken: the value, how many bytes, the error (10 too short, 11 too long). -/
def tk : Nat → Bool → List UInt8 → Nat × Nat × Nat
  | 0, _, _ => (0, 0, 11)
  | _ + 1, _, [] => (0, 0, 10)
  | m + 1, first, c :: l =>
    if 128 ≤ c.toNat then (if (tk m false l).2.2 = 0 then (c.toNat - 128 + 128 * (tk m false l).1, (tk m false l).2.1 + 1, 0) else (0, 0, (tk m false l).2.2))
    else if c.toNat = 0 ∧ first = false then (0, 0, 11) else (c.toNat, 1, 0)
/-- What is taken of a whole text at its begin: the value, how many bytes, the error. -/
def tkh (l : List UInt8) : Nat × Nat × Nat := if (tk 9 true l).2.2 = 0 then (if (tk 9 true l).1 ≥ 4611686018427387904 then (0, 0, 11) else tk 9 true l) else (0, 0, (tk 9 true l).2.2)
def takeL (l : List UInt8) (p : Int) : Int × Int × Int :=
  if p < 0 ∨ p > l.length then (0, 0, 1)
  else if (tkh (l.drop p.toNat)).2.2 = 0 then ((tkh (l.drop p.toNat)).1, p + (tkh (l.drop p.toNat)).2.1, 0) else (0, 0, (tkh (l.drop p.toNat)).2.2)

theorem putF_ne (f n : Nat) : putF f n ≠ [] := by cases f <;> simp [putF]; split <;> simp
theorem putF_len (f n : Nat) : 1 ≤ (putF f n).length ∧ (putF f n).length ≤ f + 1 := by
  induction f generalizing n with
  | zero => simp [putF]
  | succ f ih => simp only [putF]; split
                 · simp
                 · have := ih (n / 128); simp; omega
theorem tk_err (m : Nat) : ∀ (first : Bool) (l : List UInt8), (tk m first l).2.2 = 0 ∨ (tk m first l = (0, 0, 10)) ∨ tk m first l = (0, 0, 11) := by
  induction m with
  | zero => intro _ _; exact .inr (.inr rfl)
  | succ m ih =>
    intro first l
    cases l with
    | nil => exact .inr (.inl rfl)
    | cons c l =>
      simp only [tk]
      split
      · rcases ih false l with h | h | h
        · simp [h]
        · simp [h]
        · simp [h]
      · split
        · exact .inr (.inr rfl)
        · exact .inl rfl
/-- What was put is taken, whatever stands behind. -/
theorem tk_put (f : Nat) : ∀ (n : Nat) (first : Bool) (rest : List UInt8), n < 128 ^ (f + 1) → (n ≠ 0 ∨ first = true) → ∀ m, f < m → tk m first (putF f n ++ rest) = (n, (putF f n).length, 0) := by
  induction f with
  | zero =>
    intro n first rest hn hf m hm
    obtain ⟨m, rfl⟩ : ∃ q, m = q + 1 := ⟨m - 1, by omega⟩
    have h1 : n < 128 := by simpa using hn
    have h2 := u8_ofNat n (by omega)
    simp only [putF, List.cons_append, tk, h2]
    rw [if_neg (by omega), if_neg]
    · simp
    · rintro ⟨h, h'⟩; rcases hf with hf | hf
      · exact hf h
      · rw [hf] at h'; cases h'
  | succ f ih =>
    intro n first rest hn hf m hm
    obtain ⟨m, rfl⟩ : ∃ q, m = q + 1 := ⟨m - 1, by omega⟩
    by_cases h1 : n < 128
    · have h2 := u8_ofNat n (by omega)
      simp only [putF, if_pos h1, List.cons_append, tk, h2]
      rw [if_neg (by omega), if_neg]
      · simp
      · rintro ⟨h, h'⟩; rcases hf with hf | hf
        · exact hf h
        · rw [hf] at h'; cases h'
    · have h2 := u8_ofNat (128 + n % 128) (by omega)
      have h3 : n / 128 < 128 ^ (f + 1) := by rw [Nat.pow_succ] at hn; exact Nat.div_lt_of_lt_mul (by rw [Nat.mul_comm]; exact hn)
      have h4 := ih (n / 128) false rest h3 (.inl (by omega)) m (by omega)
      simp only [putF, if_neg h1, List.cons_append, tk, h2, h4]
      rw [if_pos (by omega)]
      simp
      omega
/-- Cut off ahead of its end it is too short. -/
theorem tk_cut (f : Nat) : ∀ (n : Nat) (first : Bool) (c : Nat), c < (putF f n).length → ∀ m, f < m → tk m first ((putF f n).take c) = (0, 0, 10) := by
  induction f with
  | zero =>
    intro n first c hc m hm
    obtain ⟨m, rfl⟩ : ∃ q, m = q + 1 := ⟨m - 1, by omega⟩
    obtain rfl : c = 0 := by simp [putF] at hc; omega
    simp [tk]
  | succ f ih =>
    intro n first c hc m hm
    obtain ⟨m, rfl⟩ : ∃ q, m = q + 1 := ⟨m - 1, by omega⟩
    cases c with
    | zero => simp [tk]
    | succ c =>
      by_cases h1 : n < 128
      · simp only [putF, if_pos h1, List.length_singleton] at hc; omega
      · have h2 := u8_ofNat (128 + n % 128) (by omega)
        simp only [putF, if_neg h1, List.length_cons] at hc
        have h4 := ih (n / 128) false c (by omega) m (by omega)
        simp only [putF, if_neg h1, List.take_succ_cons, tk, h2, h4]
        rw [if_pos (by omega)]
        simp
/-- What is taken stood there as it is put. -/
theorem tk_back (m : Nat) : ∀ (first : Bool) (l : List UInt8), (tk m first l).2.2 = 0 → ∀ f, m ≤ f + 1 → l.take (tk m first l).2.1 = putF f (tk m first l).1 ∧ (tk m first l).1 < 128 ^ m ∧ (tk m first l).2.1 ≤ l.length ∧ 1 ≤ (tk m first l).2.1 ∧ (tk m first l).2.1 ≤ m ∧ ((tk m first l).1 ≠ 0 ∨ first = true) := by
  induction m with
  | zero => intro first l h; simp [tk] at h
  | succ m ih =>
    intro first l h f hf
    cases l with
    | nil => simp [tk] at h
    | cons c l =>
      simp only [tk] at h ⊢
      by_cases h1 : 128 ≤ c.toNat
      · rw [if_pos h1] at h ⊢
        by_cases h2 : (tk m false l).2.2 = 0
        · obtain ⟨m', rfl⟩ : ∃ q, m = q + 1 := by cases m with
            | zero => simp [tk] at h2
            | succ q => exact ⟨q, rfl⟩
          obtain ⟨f, rfl⟩ : ∃ q, f = q + 1 := ⟨f - 1, by omega⟩
          obtain ⟨i1, i2, i3, i4, i5, i6⟩ := ih false l h2 f (by omega)
          rw [if_pos h2]
          have hc := u8_lt c
          have h5 : (tk (m' + 1) false l).1 ≠ 0 := by rcases i6 with i6 | i6; exact i6; cases i6
          generalize tk (m' + 1) false l = r at *
          refine ⟨?_, ?_, by simp; omega, by simp, by simp; omega, .inl (by simp; omega)⟩
          · simp only [List.take_succ_cons, putF]
            rw [if_neg (by omega), i1]
            congr 1
            · apply u8_ext; rw [u8_ofNat _ (by omega)]; omega
            · congr 1; omega
          · rw [Nat.pow_succ]; simp only; omega
        · rw [if_neg h2] at h; exact absurd h h2
      · rw [if_neg h1] at h ⊢
        by_cases h2 : c.toNat = 0 ∧ first = false
        · rw [if_pos h2] at h; simp at h
        · rw [if_neg h2]
          refine ⟨?_, ?_, by simp, by simp, by simp, ?_⟩
          · have : [c] = [UInt8.ofNat c.toNat] := by congr 1; apply u8_ext; rw [u8_ofNat _ (u8_lt c)]
            cases f with
            | zero => simp [putF]
            | succ f => simp only [putF, List.take_succ_cons, List.take_zero]; rw [if_pos (by omega)]; exact this
          · have := Nat.one_le_pow m 128 (by omega); rw [Nat.pow_succ]; simp only; omega
          · simp only
            by_cases h3 : c.toNat = 0
            · right; cases first with
              | true => rfl
              | false => exact absurd ⟨h3, rfl⟩ h2
            · exact .inl h3
/-- Only continuing bytes: too short, or too long from m on. -/
theorem tk_more (m : Nat) : ∀ (first : Bool) (l : List UInt8), (∀ c ∈ l.take m, 128 ≤ c.toNat) → tk m first l = if l.length < m then (0, 0, 10) else (0, 0, 11) := by
  induction m with
  | zero => intro first l _; simp [tk]
  | succ m ih =>
    intro first l h
    cases l with
    | nil => simp [tk]
    | cons c l =>
      have h1 := h c (by simp)
      have h2 := ih false l (fun d hd => h d (by simp [hd]))
      simp only [tk, h2, List.length_cons]
      rw [if_pos h1]
      by_cases h3 : l.length < m
      · simp only [if_pos h3, if_pos (show l.length + 1 < m + 1 by omega)]; rfl
      · simp only [if_neg h3, if_neg (show ¬ l.length + 1 < m + 1 by omega)]; rfl
/-! ### the machine's arithmetic -/
theorem wraps_i64' (n : Int) (h₀ : 0 ≤ n) (h₁ : n < 2 ^ 63) : IntKind.i64.wrap n = n := by rw [IntKind.wrap_i64]; omega
theorem and127 (x : Int) (h0 : 0 ≤ x) (h1 : x < 2 ^ 63) : Go.bits .and .i64 x 127 = x % 128 := bits_mask .i64 63 (by decide) wraps_i64' 7 (by decide) x h0 h1
theorem bits_or_comm (k : IntKind) (x y : Int) : Go.bits .or k x y = Go.bits .or k y x := by simp [Go.bits, BitVec.or_comm]
theorem or_128 (y : Int) (h0 : 0 ≤ y) (h1 : y < 128) : Go.bits .or .i64 y 128 = 128 + y := by
  rw [bits_or_comm]
  exact bits_join .i64 63 (by decide) wraps_i64' 7 128 y (by decide) (by decide) (by decide) h0 h1 (by omega)
theorem put_byte (n : Nat) (h : n < 9223372036854775808) : (Go.bits .or .i64 (Go.bits .and .i64 (n : Int) 127) 128) % 256 = ((UInt8.ofNat (128 + n % 128)).toNat : Int) := by
  rw [and127 _ (by omega) (by omega), or_128 _ (by omega) (by omega), u8_ofNat _ (by omega)]
  omega
theorem and_byte (c : UInt8) : Go.bits .and .i64 (c.toNat : Int) 127 = ((c.toNat % 128 : Nat) : Int) := by
  have := u8_lt c
  rw [and127 _ (by omega) (by omega)]
  omega
theorem last_byte (n : Nat) (h : n < 128) : (n : Int) % 256 = ((UInt8.ofNat n).toNat : Int) := by rw [u8_ofNat _ (by omega)]; omega
theorem pow128 (i : Nat) : (2 : Nat) ^ (7 * i) = 128 ^ i := by rw [Nat.pow_mul]
theorem pow128_le {i : Nat} (hi : i ≤ 8) : (128 : Nat) ^ i ≤ 72057594037927936 := by
  have := Nat.pow_le_pow_right (n := 128) (by omega) hi
  simpa using this
theorem shl7 (i c : Nat) (hi : i ≤ 8) (hc : c < 128) : shl .i64 (c : Int) (7 * (i : Int)) = ((c * 128 ^ i : Nat) : Int) := by
  unfold shl
  have h1 : min (7 * (i : Int)).toNat IntKind.i64.bits = 7 * i := by
    have : IntKind.i64.bits = 64 := rfl
    rw [this]; omega
  have h2 : (2 : Int) ^ (7 * i) = ((128 ^ i : Nat) : Int) := by rw [← pow128]; simp
  rw [h1, h2]
  have h3 := pow128_le hi
  have h4 : c * 128 ^ i ≤ 127 * 72057594037927936 := Nat.mul_le_mul (by omega) h3
  rw [show (c : Int) * ((128 ^ i : Nat) : Int) = ((c * 128 ^ i : Nat) : Int) by simp]
  exact wraps_i64' _ (by omega) (by omega)
theorem or_shl (i acc c : Nat) (hi : i ≤ 8) (ha : acc < 128 ^ i) (hc : c < 128) : Go.bits .or .i64 (acc : Int) (shl .i64 (c : Int) (7 * (i : Int))) = ((acc + c * 128 ^ i : Nat) : Int) := by
  rw [shl7 i c hi hc, bits_or_comm]
  have h3 := pow128_le hi
  have h4 : c * 128 ^ i ≤ 127 * 72057594037927936 := Nat.mul_le_mul (by omega) h3
  have h5 : ((128 ^ i : Nat) : Int) = 2 ^ (7 * i) := by rw [← pow128]; simp
  rw [bits_join .i64 63 (by decide) wraps_i64' (7 * i) ((c * 128 ^ i : Nat) : Int) (acc : Int) (by omega) ?_ (by omega) (by omega) (by rw [← h5]; exact_mod_cast ha) (by omega)]
  · omega
  · rw [← h5]
    have : (c * 128 ^ i) % 128 ^ i = 0 := Nat.mul_mod_left _ _
    exact_mod_cast this
theorem tdiv128 (n : Nat) : Int.tdiv (n : Int) 128 = ((n / 128 : Nat) : Int) := by rw [Int.tdiv_eq_ediv_of_nonneg (by omega)]; omega
theorem tmod128 (n : Nat) : Int.tmod (n : Int) 128 = ((n % 128 : Nat) : Int) := by rw [Int.tmod_eq_emod_of_nonneg (by omega)]; omega
theorem strOfNums_bytes (l : List UInt8) : strOfNums (l.map fun c => (c.toNat : Int)) = arr l := by
  apply lst_inj
  simp only [strOfNums, lst, arr, List.map_map]
  rw [List.map_congr_left (g := id) (fun c _ => by simp)]
  simp

/-! ### another way to take: count, add, put again -/
def lead : List UInt8 → Nat
  | [] => 0
  | c :: l => if 128 ≤ c.toNat then lead l + 1 else 0
def sumF : List UInt8 → Nat
  | [] => 0
  | c :: l => c.toNat % 128 + 128 * sumF l
theorem lead_le (l : List UInt8) : lead l ≤ l.length := by
  induction l with
  | nil => simp [lead]
  | cons c l ih => simp only [lead]; split <;> simp <;> omega
theorem lead_more (l : List UInt8) : ∀ m, m ≤ lead l → ∀ c ∈ l.take m, 128 ≤ c.toNat := by
  induction l with
  | nil => intro m _ c hc; simp at hc
  | cons d l ih =>
    intro m hm c hc
    cases m with
    | zero => simp at hc
    | succ m =>
      simp only [lead] at hm
      split at hm
      · rename_i h
        rcases List.mem_cons.1 (by simpa using hc) with rfl | h2
        · exact h
        · exact ih m (by omega) c h2
      · omega
theorem tk_lead (l : List UInt8) : ∀ (m : Nat) (first : Bool) (h : lead l < l.length), lead l < m → tk m first l = if (l[lead l]'h).toNat = 0 ∧ (0 < lead l ∨ first = false) then (0, 0, 11) else (sumF (l.take (lead l + 1)), lead l + 1, 0) := by
  induction l with
  | nil => intro m first h; simp [lead] at h
  | cons c l ih =>
    intro m first h hm
    obtain ⟨m, rfl⟩ : ∃ q, m = q + 1 := ⟨m - 1, by omega⟩
    by_cases h1 : 128 ≤ c.toNat
    · have e : lead (c :: l) = lead l + 1 := by simp [lead, h1]
      have h' : lead l < l.length := by rw [e] at h; simp at h; exact h
      have h2 := ih m false h' (by omega)
      simp only [e, List.getElem_cons_succ]
      simp only [tk, if_pos h1, h2]
      by_cases h3 : (l[lead l]'h').toNat = 0
      · simp [h3]
      · simp only [h3, false_and, if_false, if_true, List.take_succ_cons, sumF]
        have := u8_lt c
        refine Prod.ext (by simp only; omega) rfl
    · have e : lead (c :: l) = 0 := by simp [lead, h1]
      simp only [e, List.getElem_cons_zero]
      simp only [tk, if_neg h1]
      have h5 : c.toNat % 128 = c.toNat := by omega
      simp [sumF, h5]
theorem lead_take (l : List UInt8) (h : lead l < l.length) : lead (l.take (lead l + 1)) = lead l := by
  induction l with
  | nil => simp [lead] at h
  | cons c l ih =>
    by_cases h1 : 128 ≤ c.toNat
    · have e : lead (c :: l) = lead l + 1 := by simp [lead, h1]
      have h' : lead l < l.length := by rw [e] at h; simp at h; exact h
      rw [e, List.take_succ_cons]
      simp only [lead, if_pos h1, ih h']
    · have e : lead (c :: l) = 0 := by simp [lead, h1]
      simp [lead, h1]
theorem sumF_lt (l : List UInt8) : sumF l < 128 ^ l.length := by
  induction l with
  | nil => simp [sumF]
  | cons c l ih => simp only [sumF, List.length_cons, Nat.pow_succ]; omega
theorem put_nat (n : Nat) (h : n < 4611686018427387904) : put (n : Int) = putF 8 n := by unfold put; rw [if_neg (by omega)]; simp
theorem put_big (n : Int) (h : 4611686018427387904 ≤ n) : put n = [] := by unfold put; rw [if_pos (by omega)]
theorem tkh_lead (l : List UInt8) (h : lead l < l.length) (h8 : lead l ≤ 8) : tkh l = if put (sumF (l.take (lead l + 1)) : Nat) = l.take (lead l + 1) then (sumF (l.take (lead l + 1)), lead l + 1, 0) else (0, 0, 11) := by
  have h1 := tk_lead l 9 true h (by omega)
  have hne : l.take (lead l + 1) ≠ [] := by
    intro e
    have := congrArg List.length e
    rw [List.length_take, List.length_nil] at this
    omega
  by_cases hz : (l[lead l]'h).toNat = 0 ∧ (0 < lead l ∨ true = false)
  · rw [if_pos hz] at h1
    have e1 : tkh l = (0, 0, 11) := by simp [tkh, h1]
    rw [e1, if_neg]
    intro e
    by_cases hb : sumF (l.take (lead l + 1)) < 4611686018427387904
    · rw [put_nat _ hb] at e
      have h2 := tk_put 8 (sumF (l.take (lead l + 1))) true [] (by omega) (.inr rfl) 9 (by omega)
      rw [List.append_nil, e] at h2
      have h3 := tk_lead (l.take (lead l + 1)) 9 true (by rw [lead_take l h]; simp; omega) (by rw [lead_take l h]; omega)
      have h4 : ((l.take (lead l + 1))[lead (l.take (lead l + 1))]'(by rw [lead_take l h]; simp; omega)) = l[lead l]'h := by
        simp [lead_take l h]
      rw [h4, lead_take l h, if_pos hz, h2] at h3
      simp at h3
    · rw [put_big _ (by omega)] at e
      exact hne e.symm
  · rw [if_neg hz] at h1
    have h2 := tk_back 9 true l (by rw [h1]) 8 (by omega)
    rw [h1] at h2
    simp only at h2
    by_cases hb : sumF (l.take (lead l + 1)) < 4611686018427387904
    · rw [put_nat _ hb, if_pos h2.1.symm]
      simp only [tkh, h1, if_true]
      rw [if_neg (by omega)]
    · rw [put_big _ (by omega), if_neg (fun e => hne e.symm)]
      simp only [tkh, h1, if_true]
      rw [if_pos (by omega)]
theorem tkh_more (l : List UInt8) (h : lead l = l.length ∨ 9 ≤ lead l) : tkh l = if l.length < 9 then (0, 0, 10) else (0, 0, 11) := by
  have h1 := tk_more 9 true l (by
    rcases h with h | h
    · intro c hc
      refine lead_more l (lead l) (Nat.le_refl _) c ?_
      rw [h, List.take_of_length_le (Nat.le_refl _)]
      exact List.mem_of_mem_take hc
    · exact lead_more l 9 h)
  unfold tkh
  rw [h1]
  split <;> simp
theorem wrap64_of {x : Int} (h0 : -9223372036854775808 ≤ x) (h1 : x < 9223372036854775808) : wrap64 x = x := by unfold wrap64; omega
theorem wrap64_nat' {x : Int} {n : Nat} (h : x = n) (h1 : x < 9223372036854775808) : wrap64 x = (n : Int) := by rw [wrap64_of (by omega) h1, h]
/-- What the rest of a take comes to, from place i of the number on, of weight U there. -/
def fin0 (p i acc U : Nat) (r : Nat × Nat × Nat) : Int × Int × Int :=
  if r.2.2 = 0 then (if acc + r.1 * U ≥ 4611686018427387904 then (0, 0, 11) else (((acc + r.1 * U : Nat) : Int), ((p + i + r.2.1 : Nat) : Int), 0)) else (0, 0, r.2.2)
def fin (p i acc : Nat) (r : Nat × Nat × Nat) : Int × Int × Int := fin0 p i acc (128 ^ i) r
theorem fin_succ (p i a : Nat) (r : Nat × Nat × Nat) : fin p (i + 1) a r = fin0 p (i + 1) a (128 ^ i * 128) r := by unfold fin; rw [Nat.pow_succ]
theorem fin_now (p i a : Nat) (r : Nat × Nat × Nat) : fin p i a r = fin0 p i a (128 ^ i) r := by unfold fin; rfl
theorem fin0_err (p i acc U : Nat) (r : Nat × Nat × Nat) (h : r.2.2 ≠ 0) : fin0 p i acc U r = (0, 0, (r.2.2 : Int)) := by unfold fin0; rw [if_neg h]
theorem fin0_next (p i acc U : Nat) (c : UInt8) (h : 128 ≤ c.toNat) (r : Nat × Nat × Nat) : fin0 p i acc U (if r.2.2 = 0 then (c.toNat - 128 + 128 * r.1, r.2.1 + 1, 0) else (0, 0, r.2.2)) = fin0 p (i + 1) (acc + c.toNat % 128 * U) (U * 128) r := by
  by_cases h3 : r.2.2 = 0
  · rw [if_pos h3]
    unfold fin0
    simp only [h3, if_true]
    have hc := u8_lt c
    have e9 : acc + (c.toNat - 128 + 128 * r.1) * U = acc + c.toNat % 128 * U + r.1 * (U * 128) := by
      rw [show c.toNat - 128 = c.toNat % 128 by omega, Nat.add_mul, ← Nat.add_assoc]
      congr 1
      rw [Nat.mul_comm 128 r.1, Nat.mul_assoc, Nat.mul_comm 128]
    rw [e9, show p + i + (r.2.1 + 1) = p + (i + 1) + r.2.1 by omega]
  · rw [if_neg h3, fin0_err _ _ _ _ r h3, fin0_err _ _ _ _ (0, 0, r.2.2) h3]
theorem fin_tkh (p : Nat) (l : List UInt8) : fin p 0 0 (tk 9 true l) = if (tkh l).2.2 = 0 then (((tkh l).1 : Int), (p : Int) + (tkh l).2.1, 0) else (0, 0, ((tkh l).2.2 : Int)) := by
  unfold fin fin0 tkh
  by_cases h : (tk 9 true l).2.2 = 0
  · simp only [h, if_true, Nat.pow_zero, Nat.mul_one, Nat.zero_add, Nat.add_zero]
    by_cases h2 : (tk 9 true l).1 ≥ 4611686018427387904
    · rw [if_pos h2, if_pos h2]; rfl
    · rw [if_neg h2, if_neg h2, if_pos h]
      simp
  · simp only [h, if_false]
theorem put_byte_sum (n : Nat) : (wrap64 (128 + ((n % 128 : Nat) : Int))) % 256 = ((UInt8.ofNat (128 + n % 128)).toNat : Int) := by
  rw [u8_ofNat _ (by omega), wrap64_of (by omega) (by omega)]
  omega
theorem wrap64_div (n : Nat) (h : n < 9223372036854775808) : wrap64 ((n / 128 : Nat) : Int) = ((n / 128 : Nat) : Int) := wrap64_of (by omega) (by omega)
/-! ### whole numbers, at the begin of a text and anywhere in it -/
theorem tkh_put (n : Nat) (h : n < 4611686018427387904) (rest : List UInt8) : tkh (putF 8 n ++ rest) = (n, (putF 8 n).length, 0) := by
  have h1 := tk_put 8 n true rest (by omega) (.inr rfl) 9 (by omega)
  unfold tkh
  rw [h1]
  simp only [if_true]
  rw [if_neg (by omega)]
theorem tkh_cut (n : Nat) (c : Nat) (hc : c < (putF 8 n).length) : tkh ((putF 8 n).take c) = (0, 0, 10) := by
  have h1 := tk_cut 8 n true c hc 9 (by omega)
  unfold tkh
  rw [h1]
  simp
theorem tkh_back (l : List UInt8) (h : (tkh l).2.2 = 0) : put ((tkh l).1 : Nat) = l.take (tkh l).2.1 ∧ putF 8 (tkh l).1 = l.take (tkh l).2.1 ∧ (tkh l).1 < 4611686018427387904 ∧ (tkh l).2.1 ≤ l.length ∧ 1 ≤ (tkh l).2.1 ∧ (tkh l).2.1 ≤ 9 := by
  unfold tkh at h ⊢
  by_cases h1 : (tk 9 true l).2.2 = 0
  · rw [if_pos h1] at h ⊢
    by_cases h2 : (tk 9 true l).1 ≥ 4611686018427387904
    · rw [if_pos h2] at h; simp at h
    · rw [if_neg h2]
      have h3 := tk_back 9 true l h1 8 (by omega)
      refine ⟨?_, h3.1.symm, by omega, h3.2.2.1, h3.2.2.2.1, h3.2.2.2.2.1⟩
      rw [put_nat _ (by omega), h3.1]
  · rw [if_neg h1] at h; exact absurd h h1
theorem tkh_err (l : List UInt8) : (tkh l).2.2 = 0 ∨ tkh l = (0, 0, 10) ∨ tkh l = (0, 0, 11) := by
  unfold tkh
  rcases tk_err 9 true l with h | h | h
  · rw [if_pos h]
    split
    · exact .inr (.inr rfl)
    · exact .inl h
  · rw [h]; exact .inr (.inl rfl)
  · rw [h]; exact .inr (.inr rfl)
theorem put_ok {n : Int} (h : put n ≠ []) : ∃ m : Nat, n = m ∧ m < 4611686018427387904 ∧ put n = putF 8 m := by
  by_cases h0 : n < 0 ∨ n ≥ 4611686018427387904
  · exfalso; apply h; unfold put; rw [if_pos h0]
  · obtain ⟨m, rfl⟩ := Int.eq_ofNat_of_zero_le (show 0 ≤ n by omega)
    exact ⟨m, rfl, by omega, put_nat m (by omega)⟩
theorem put_nil {n : Int} (h : put n = []) : n < 0 ∨ n ≥ 4611686018427387904 := by
  by_cases h0 : n < 0 ∨ n ≥ 4611686018427387904
  · exact h0
  · exfalso
    unfold put at h
    rw [if_neg h0] at h
    exact putF_ne _ _ h
theorem put_len (n : Int) : (put n).length ≤ 9 := by
  unfold put
  split
  · simp
  · have := putF_len 8 n.toNat; omega
theorem takeL_put {n : Int} (h : put n ≠ []) (pre rest : List UInt8) : takeL (pre ++ put n ++ rest) pre.length = (n, (pre.length : Int) + ((put n).length : Int), (0 : Int)) := by
  obtain ⟨m, rfl, hm, e⟩ := put_ok h
  unfold takeL
  rw [if_neg (by simp; omega), Int.toNat_natCast, List.append_assoc, List.drop_left, e, tkh_put m hm]
  simp
theorem put_prefix {n m : Int} (h : put n ≠ []) (k : put m ≠ []) (e : (put m).take (put n).length = put n) : n = m := by
  have h1 := takeL_put k [] []
  have h2 := takeL_put h [] ((put m).drop (put n).length)
  have e2 : put n ++ (put m).drop (put n).length = put m := by
    conv => lhs; arg 1; rw [← e]
    exact List.take_append_drop _ _
  simp only [List.nil_append, List.append_nil, e2] at h1 h2
  rw [h1] at h2
  injection h2 with h2
  exact h2.symm
theorem takeL_back (l : List UInt8) (p : Int) (h : (takeL l p).2.2 = 0) : 0 ≤ p ∧ ∃ u : Nat, (takeL l p).2.1 = p + u ∧ 1 ≤ u ∧ u ≤ 9 ∧ p.toNat + u ≤ l.length ∧ put (takeL l p).1 = (l.drop p.toNat).take u := by
  unfold takeL at h ⊢
  by_cases h0 : p < 0 ∨ p > l.length
  · rw [if_pos h0] at h; simp at h
  · rw [if_neg h0] at h ⊢
    by_cases h1 : (tkh (l.drop p.toNat)).2.2 = 0
    · rw [if_pos h1]
      obtain ⟨b1, _, b2, b3, b4, b5⟩ := tkh_back _ h1
      rw [List.length_drop] at b3
      exact ⟨by omega, (tkh (l.drop p.toNat)).2.1, rfl, b4, b5, by omega, b1⟩
    · rw [if_neg h1] at h; simp at h; omega
/-- A larger number has no fewer bytes. -/
theorem putF_mono (f : Nat) : ∀ n m, n ≤ m → (putF f n).length ≤ (putF f m).length := by
  induction f with
  | zero => intro n m _; simp [putF]
  | succ f ih =>
    intro n m h
    simp only [putF]
    have := ih (n / 128) (m / 128) (by omega)
    have := (putF_len f (m / 128)).1
    split <;> split <;> simp <;> omega
/-- Each byte but the last one is 128 or more. -/
theorem putF_cont (f : Nat) : ∀ n, n < 128 ^ (f + 1) → ∀ i (h : i < (putF f n).length), 128 ≤ ((putF f n)[i]).toNat ↔ i + 1 < (putF f n).length := by
  induction f with
  | zero =>
    intro n hn i h
    have h1 : n < 128 := by simpa using hn
    have : i = 0 := by simp [putF] at h; exact h
    subst this
    simp [putF]
    omega
  | succ f ih =>
    intro n hn i h
    by_cases h1 : n < 128
    · have e : putF (f + 1) n = [UInt8.ofNat n] := by simp only [putF, if_pos h1]
      simp only [e, List.length_singleton] at h ⊢
      have : i = 0 := by omega
      subst this
      simp
      omega
    · have e : putF (f + 1) n = UInt8.ofNat (128 + n % 128) :: putF f (n / 128) := by simp only [putF, if_neg h1]
      simp only [e, List.length_cons] at h ⊢
      cases i with
      | zero =>
        have := (putF_len f (n / 128)).1
        have h2 := u8_ofNat (128 + n % 128) (by omega)
        simp only [List.getElem_cons_zero, h2]
        omega
      | succ i =>
        have h3 : n / 128 < 128 ^ (f + 1) := by rw [Nat.pow_succ] at hn; exact Nat.div_lt_of_lt_mul (by rw [Nat.mul_comm]; exact hn)
        have := ih (n / 128) h3 i (by omega)
        simp only [List.getElem_cons_succ]
        omega
theorem lead_replicate (c : UInt8) (h : 128 ≤ c.toNat) (n : Nat) : lead (List.replicate n c) = n := by
  induction n with
  | zero => rfl
  | succ n ih => simp only [List.replicate_succ, lead, if_pos h, ih]
theorem putF_eight (n : Nat) (h : n < 4611686018427387904) : (putF 9 n).length = (putF 8 n).length := by
  have h1 := tk_put 8 n true [] (by omega) (.inr rfl) 10 (by omega)
  have h2 := tk_put 9 n true [] (by omega) (.inr rfl) 10 (by omega)
  have h3 := tk_back 10 true (putF 8 n ++ []) (by rw [h1]) 9 (by omega)
  rw [h1] at h3
  have := congrArg List.length h3.1
  simp at this
  omega
end ShCore

/- What varint's printed functions come to, by the plain lists of bytes. For every input. -/
namespace Go.Proofs.Ytijjfomnidckdaa.Q
open Go Go.RowKit Go.Proofs.YtijjfomnidckdaaW.PrintWords Go.Proofs.YtijjfomnidckdaaW.PrintLast Go.Proofs.YtijjfomnidckdaaW.PrintMore ShCore

theorem varint_Put.l0_ev (f : Nat) : ∀ (n : Nat) (acc : List Int), n < 128 ^ (f + 1) → n < 9223372036854775808 → acc.length + f < 1000 →
    Ev (fun k => varint_Put.l0 k n acc) (strOfNums (acc ++ (putF f n).map fun c => (c.toNat : Int))) := by
  induction f with
  | zero =>
    intro n acc hn _ hl
    have h1 : n < 128 := by simpa using hn
    refine Ev.step (f := fun _ => some _) (fun k => ?_) (Ev.now _)
    simp only [varint_Put.l0]
    rw [if_neg (by omega), if_pos (by omega), last_byte n h1]
    rfl
  | succ f ih =>
    intro n acc hn hb hl
    by_cases h1 : n < 128
    · refine Ev.step (f := fun _ => some _) (fun k => ?_) (Ev.now _)
      simp only [varint_Put.l0]
      rw [if_neg (by omega), if_pos (by omega), last_byte n h1]
      simp only [putF, if_pos h1]
      rfl
    · have h3 : n / 128 < 128 ^ (f + 1) := by rw [Nat.pow_succ] at hn; exact Nat.div_lt_of_lt_mul (by rw [Nat.mul_comm]; exact hn)
      have h2 := ih (n / 128) (acc ++ [((UInt8.ofNat (128 + n % 128)).toNat : Int)]) h3 (by omega) (by simp; omega)
      refine Ev.step (fun k => ?_) (r := _) (f := fun k => varint_Put.l0 k ((n / 128 : Nat) : Int) (acc ++ [((UInt8.ofNat (128 + n % 128)).toNat : Int)])) ?_
      · simp only [varint_Put.l0]
        rw [if_pos (by omega), if_pos (by omega), put_byte n hb]
        rfl
      · simp only [putF, if_neg h1, List.map_cons]
        rw [List.append_assoc] at h2
        exact h2
theorem varint_Put.ev (n : Int) : Ev (fun k => varint_Put.f k n) (arr (put n)) := by
  have e0 : (⟨#[]⟩ : ByteArray) = arr [] := rfl
  by_cases h0 : n < 0
  · have e : put n = [] := by unfold put; rw [if_pos (.inl h0)]
    rw [e]
    refine Ev.step (f := fun _ => some _) (fun k => ?_) (Ev.now _)
    unfold varint_Put.f
    rw [if_pos h0]
    rfl
  · by_cases h1 : n ≥ 4611686018427387904
    · have e : put n = [] := by unfold put; rw [if_pos (.inr h1)]
      rw [e]
      refine Ev.step (f := fun _ => some _) (fun k => ?_) (Ev.now _)
      unfold varint_Put.f
      rw [if_neg h0]
      simp only [varint_Put.j0, decide_eq_true h1]
      rfl
    · obtain ⟨m, rfl⟩ := Int.eq_ofNat_of_zero_le (show 0 ≤ n by omega)
      rw [put_nat m (by omega)]
      have h2 := varint_Put.l0_ev 8 m [] (by omega) (by omega) (by simp)
      rw [List.nil_append, strOfNums_bytes] at h2
      refine Ev.step (fun k => ?_) h2
      unfold varint_Put.f
      rw [if_neg h0]
      simp only [varint_Put.j0, decide_eq_false h1]
      rfl

end Go.Proofs.Ytijjfomnidckdaa.Q

/- What a table may be, what it is with a string or a stack, what numbers name: by plain lists. For every input. -/
namespace Go.Proofs.Ytijjfomnidckdaa.Q
open Go Go.RowKit Go.Proofs.YtijjfomnidckdaaW.PrintWords Go.Proofs.YtijjfomnidckdaaW.PrintLast Go.Proofs.YtijjfomnidckdaaW.PrintMore ShCore
abbrev T2 := S50
abbrev T4 := S45
instance : DecidableEq T2 := fun a b => decidable_of_iff (a.f0 = b.f0 ∧ a.f1 = b.f1) (by cases a; cases b; simp)
instance : DecidableEq T4 := fun a b => decidable_of_iff (a.f0 = b.f0 ∧ a.f1 = b.f1) (by cases a; cases b; simp)
instance memB (s : ByteArray) (l : List ByteArray) : Decidable (s ∈ l) := decidable_of_iff (∃ a ∈ l, a = s) ⟨fun ⟨_, h, e⟩ => e ▸ h, fun h => ⟨s, h, rfl⟩⟩
theorem T2_ext {a b : T2} (h0 : a.f0 = b.f0) (h1 : a.f1 = b.f1) : a = b := by cases a; cases b; simp_all
theorem T4_ext {a b : T4} (h0 : a.f0 = b.f0) (h1 : a.f1 = b.f1) : a = b := by cases a; cases b; simp_all
/-! #### places in lists -/
theorem getD_mid {α : Type} (d : α) (pre : List α) (a : α) (r : List α) : (pre ++ a :: r).getD pre.length d = a := by
  rw [List.getD_eq_getElem?_getD]
  simp
theorem rdOf_mid {α : Type} (d : α) (pre : List α) (a : α) (r : List α) : rdOf d (pre ++ a :: r) (pre.length : Int) = a := by
  unfold rdOf
  rw [Int.toNat_natCast]
  exact getD_mid ..
theorem rd2_mid (pre : List T2) (a : T2) (r : List T2) : rd_T50 (pre ++ a :: r) (pre.length : Int) = a := by
  unfold rd_T50
  rw [Int.toNat_natCast]
  exact getD_mid ..
theorem rd4_mid (pre : List T4) (a : T4) (r : List T4) : rd_T45 (pre ++ a :: r) (pre.length : Int) = a := by
  unfold rd_T45
  rw [Int.toNat_natCast]
  exact getD_mid ..
theorem rdL_mid (pre : List (List T2)) (a : List T2) (r : List (List T2)) : rd_L2 (pre ++ a :: r) (pre.length : Int) = a := by
  unfold rd_L2
  rw [Int.toNat_natCast]
  exact getD_mid ..
theorem rdS_mid (pre : List (List T2)) (a : List T2) (r : List (List T2)) : rd_stk (pre ++ a :: r) (pre.length : Int) = a := by
  unfold rd_stk
  rw [Int.toNat_natCast]
  exact getD_mid ..
theorem lt_mid {α : Type} (pre : List α) (a : α) (r : List α) : (pre.length : Int) < ((pre ++ a :: r).length : Int) := by
  rw [List.length_append, List.length_cons]
  omega
theorem snoc_len {α : Type} (pre : List α) (a : α) : ((pre.length : Int) + 1) = ((pre ++ [a]).length : Int) := by
  rw [List.length_append, List.length_singleton]
  rfl
theorem w_snoc {α : Type} (pre : List α) (a : α) (h : pre.length < 4611686018427387904) : wrap64 ((pre.length : Int) + 1) = ((pre ++ [a]).length : Int) := by
  rw [← snoc_len]
  unfold wrap64
  omega
theorem nlt_end {α : Type} (pre : List α) : ¬ (pre.length : Int) < ((pre ++ []).length : Int) := by
  rw [List.append_nil]
  omega
theorem mid_snoc {α : Type} (pre : List α) (a : α) (r : List α) : pre ++ a :: r = (pre ++ [a]) ++ r := by simp
theorem eq_lst {a b : ByteArray} : a.toList = b.toList ↔ a = b := ⟨fun h => lst_inj (by rw [← toList_lst, ← toList_lst, h]), fun h => by rw [h]⟩
theorem nil_lst {a : ByteArray} : a.toList = ([] : List UInt8) ↔ a.size = 0 := by
  rw [toList_lst, ← lst_length]
  exact List.length_eq_zero_iff.symm
/-! #### the first place -/
def fi {α : Type} (p : α → Bool) : List α → Nat → Int
  | [], _ => -1
  | a :: l, i => if p a then (i : Int) else fi p l (i + 1)
theorem fi_spec {α : Type} (p : α → Bool) : ∀ (l : List α) (i : Nat), (fi p l i = -1 ∧ ∀ a ∈ l, p a = false) ∨ ∃ (j : Nat) (h : j < l.length), fi p l i = ((i + j : Nat) : Int) ∧ p l[j] = true ∧ ∀ a ∈ l.take j, p a = false
  | [], i => .inl ⟨rfl, by simp⟩
  | a :: l, i => by
    unfold fi
    by_cases h : p a = true
    · rw [if_pos h]
      exact .inr ⟨0, by simp, rfl, h, by simp⟩
    · rw [if_neg h]
      rcases fi_spec p l (i + 1) with ⟨e, hn⟩ | ⟨j, hj, e, hp, hn⟩
      · exact .inl ⟨e, by simpa [h] using hn⟩
      · exact .inr ⟨j + 1, by simp; omega, by rw [e]; congr 1; omega, hp, by simpa [h] using hn⟩
theorem fi_mid {α : Type} (p : α → Bool) (a : α) (r : List α) (ha : p a = true) : ∀ (pre : List α) (i : Nat), (∀ b ∈ pre, p b = false) → fi p (pre ++ a :: r) i = ((i + pre.length : Nat) : Int)
  | [], i, _ => by
    show (if p a then (i : Int) else _) = _
    rw [if_pos ha]
    rfl
  | b :: pre, i, h => by
    show (if p b then (i : Int) else fi p (pre ++ a :: r) (i + 1)) = _
    rw [if_neg (by simp [h b (by simp)]), fi_mid p a r ha pre (i + 1) (fun c hc => h c (by simp [hc]))]
    congr 1
    simp only [List.length_cons]
    omega
theorem fi_pre {α : Type} (p : α → Bool) (r : List α) : ∀ (pre : List α) (i : Nat), (∃ b ∈ pre, p b = true) → ∃ j : Nat, fi p (pre ++ r) i = ((i + j : Nat) : Int) ∧ j < pre.length
  | [], i, h => by simp at h
  | b :: pre, i, h => by
    show ∃ j : Nat, (if p b then (i : Int) else fi p (pre ++ r) (i + 1)) = _ ∧ _
    by_cases hb : p b = true
    · rw [if_pos hb]
      exact ⟨0, rfl, by simp⟩
    · rw [if_neg hb]
      obtain ⟨j, e, hj⟩ := fi_pre p r pre (i + 1) (by simpa [hb] using h)
      exact ⟨j + 1, by rw [e]; congr 1; omega, by simp; omega⟩
theorem fi_none {α : Type} (p : α → Bool) (l : List α) (i : Nat) (h : ∀ a ∈ l, p a = false) : fi p l i = -1 := by
  rcases fi_spec p l i with ⟨e, _⟩ | ⟨j, hj, _, hp, _⟩
  · exact e
  · rw [h _ (List.getElem_mem hj)] at hp
    exact absurd hp (by simp)
/-! #### what a table may be -/
def sAll : List ByteArray → List ByteArray → Bool
  | _, [] => true
  | done, s :: r => decide (1 ≤ s.size) && decide (s.size ≤ 1000) && !decide (s ∈ done) && sAll (done ++ [s]) r
def kAll (n : Int) : List (List T2) → List (List T2) → Bool
  | _, [] => true
  | done, l :: r => framesB l n && !decide (l ∈ done) && kAll n (done ++ [l]) r
def mayC (d : List ByteArray) (m : List (List T2)) : Bool := decide (d.length ≤ 10000) && decide (m.length ≤ 10000) && sAll [] d && kAll d.length [] m
theorem sAll_iff : ∀ (l done : List ByteArray), sAll done l = true ↔ (∀ s ∈ l, 1 ≤ s.size ∧ s.size ≤ 1000) ∧ l.Nodup ∧ ∀ s ∈ l, s ∉ done
  | [], done => by simp [sAll]
  | s :: r, done => by
    unfold sAll
    simp only [Bool.and_eq_true, decide_eq_true_eq, Bool.not_eq_true', decide_eq_false_iff_not, sAll_iff r, List.mem_append, List.nodup_cons, List.mem_cons, List.not_mem_nil, or_false, forall_eq_or_imp, not_or]
    constructor
    · rintro ⟨⟨⟨h1, h2⟩, h3⟩, h4, h5, h6⟩
      exact ⟨⟨⟨h1, h2⟩, h4⟩, ⟨fun h => (h6 s h).2 rfl, h5⟩, h3, fun a ha => (h6 a ha).1⟩
    · rintro ⟨⟨⟨h1, h2⟩, h4⟩, ⟨h7, h5⟩, h3, h6⟩
      exact ⟨⟨⟨h1, h2⟩, h3⟩, h4, h5, fun a ha => ⟨h6 a ha, fun e => h7 (e ▸ ha)⟩⟩
theorem kAll_iff (n : Int) : ∀ (l done : List (List T2)), kAll n done l = true ↔ (∀ s ∈ l, framesB s n = true) ∧ l.Nodup ∧ ∀ s ∈ l, s ∉ done
  | [], done => by simp [kAll]
  | s :: r, done => by
    unfold kAll
    simp only [Bool.and_eq_true, Bool.not_eq_true', decide_eq_false_iff_not, kAll_iff n r, List.mem_append, List.nodup_cons, List.mem_cons, List.not_mem_nil, or_false, forall_eq_or_imp, not_or]
    constructor
    · rintro ⟨⟨h1, h3⟩, h4, h5, h6⟩
      exact ⟨⟨h1, h4⟩, ⟨fun h => (h6 s h).2 rfl, h5⟩, h3, fun a ha => (h6 a ha).1⟩
    · rintro ⟨⟨h1, h4⟩, ⟨h7, h5⟩, h3, h6⟩
      exact ⟨⟨h1, h3⟩, h4, h5, fun a ha => ⟨h6 a ha, fun e => h7 (e ▸ ha)⟩⟩
theorem framesB_iff (l : List T2) (n : Int) : framesB l n = true ↔ (1 ≤ l.length ∧ l.length ≤ 100) ∧ ∀ x ∈ l, (1 ≤ x.f0 ∧ x.f0 ≤ n) ∧ 0 ≤ x.f1 ∧ x.f1 < 4611686018427387904 := by
  unfold framesB
  by_cases h : l.length = 0 ∨ 100 < l.length
  · rw [if_pos h]
    constructor
    · intro hh; exact absurd hh (by simp)
    · rintro ⟨h1, _⟩; omega
  · rw [if_neg h]
    simp only [Bool.not_eq_true', List.any_eq_false, outF, Bool.or_eq_true, decide_eq_true_eq, not_or, Int.not_lt, Int.not_le]
    constructor
    · intro hh
      refine ⟨by omega, fun x hx => ?_⟩
      have := hh x hx
      omega
    · rintro ⟨_, hh⟩ x hx
      have := hh x hx
      omega
/-- A table that may be. -/
def MayP (d : List ByteArray) (m : List (List T2)) : Prop := d.length ≤ 10000 ∧ m.length ≤ 10000 ∧ (∀ s ∈ d, 1 ≤ s.size ∧ s.size ≤ 1000) ∧ d.Nodup ∧ (∀ l ∈ m, framesB l d.length = true) ∧ m.Nodup
theorem mayC_iff (d : List ByteArray) (m : List (List T2)) : mayC d m = true ↔ MayP d m := by
  unfold mayC MayP
  simp only [Bool.and_eq_true, decide_eq_true_eq, sAll_iff, kAll_iff, List.not_mem_nil, not_false_eq_true, implies_true, and_true]
  constructor
  · rintro ⟨⟨⟨a, b⟩, c, e⟩, f, g⟩; exact ⟨a, b, c, e, f, g⟩
  · rintro ⟨a, b, c, e, f, g⟩; exact ⟨⟨⟨a, b⟩, c, e⟩, f, g⟩
theorem mayC_not {d : List ByteArray} {m : List (List T2)} (h : ¬ MayP d m) : mayC d m = false := by
  rw [← Bool.not_eq_true, mayC_iff]
  exact h
/-! #### keys -/
def keyL (l : List T2) : List UInt8 := l.flatMap fun x => put x.f0 ++ put x.f1
def fine (x : T2) : Prop := (0 ≤ x.f0 ∧ x.f0 < 4611686018427387904) ∧ 0 ≤ x.f1 ∧ x.f1 < 4611686018427387904
theorem put_fine {n : Int} (h0 : 0 ≤ n) (h1 : n < 4611686018427387904) : ∃ k : Nat, n = k ∧ k < 4611686018427387904 ∧ put n = putF 8 k := by
  obtain ⟨k, rfl⟩ : ∃ k : Nat, n = k := ⟨n.toNat, by omega⟩
  exact ⟨k, rfl, by omega, put_nat k (by omega)⟩
theorem put_app {n m : Int} (h0 : 0 ≤ n) (h1 : n < 4611686018427387904) (k0 : 0 ≤ m) (k1 : m < 4611686018427387904) {u v : List UInt8} (h : put n ++ u = put m ++ v) : n = m ∧ u = v := by
  obtain ⟨a, rfl, ha, ea⟩ := put_fine h0 h1
  obtain ⟨b, rfl, hb, eb⟩ := put_fine k0 k1
  rw [ea, eb] at h
  have t1 := tkh_put a ha u
  rw [h, tkh_put b hb v] at t1
  have e : b = a := congrArg Prod.fst t1
  subst e
  exact ⟨rfl, List.append_cancel_left h⟩
theorem keyL_inj : ∀ (a b : List T2), (∀ x ∈ a, fine x) → (∀ x ∈ b, fine x) → keyL a = keyL b → a = b
  | [], [], _, _, _ => rfl
  | [], y :: b, _, hb, h => by
    obtain ⟨k, _, hk, e⟩ := put_fine (hb y (by simp)).1.1 (hb y (by simp)).1.2
    have := congrArg List.length h
    simp only [keyL, List.flatMap_cons, List.flatMap_nil, List.length_append, List.length_nil, e] at this
    have := (putF_len 8 k).1
    omega
  | y :: a, [], ha, _, h => by
    obtain ⟨k, _, hk, e⟩ := put_fine (ha y (by simp)).1.1 (ha y (by simp)).1.2
    have := congrArg List.length h
    simp only [keyL, List.flatMap_cons, List.flatMap_nil, List.length_append, List.length_nil, e] at this
    have := (putF_len 8 k).1
    omega
  | x :: a, y :: b, ha, hb, h => by
    have hx := ha x (by simp)
    have hy := hb y (by simp)
    simp only [keyL, List.flatMap_cons, List.append_assoc] at h
    obtain ⟨e0, h⟩ := put_app hx.1.1 hx.1.2 hy.1.1 hy.1.2 h
    obtain ⟨e1, h⟩ := put_app hx.2.1 hx.2.2 hy.2.1 hy.2.2 h
    rw [keyL_inj a b (fun z hz => ha z (by simp [hz])) (fun z hz => hb z (by simp [hz])) h, T2_ext e0 e1]
theorem fine_of {l : List T2} {n : Int} (h : framesB l n = true) (hn : n ≤ 10000) : ∀ x ∈ l, fine x := fun x hx => by
  have := ((framesB_iff l n).1 h).2 x hx
  unfold fine
  omega
theorem keyL_len (l : List T2) : (keyL l).length ≤ 18 * l.length := by
  induction l with
  | nil => simp [keyL]
  | cons x l ih =>
    simp only [keyL, List.flatMap_cons, List.length_append, List.length_cons] at *
    have := put_len x.f0
    have := put_len x.f1
    omega
def keyB (l : List T2) : ByteArray := arr (keyL l)
theorem keyB_inj {a b : List T2} {n : Int} (ha : framesB a n = true) (hb : framesB b n = true) (hn : n ≤ 10000) (h : keyB a = keyB b) : a = b := keyL_inj a b (fine_of ha hn) (fine_of hb hn) (arr_inj h)
theorem hasS_mem (ks : List ByteArray) (s : ByteArray) : hasS ks s = decide (s ∈ ks) := by
  unfold hasS
  rw [Bool.eq_iff_iff, List.any_eq_true, decide_eq_true_eq]
  constructor
  · rintro ⟨x, hx, e⟩
    rw [← lst_inj (beq_iff_eq.1 e)]
    exact hx
  · exact fun h => ⟨s, h, beq_iff_eq.2 rfl⟩
theorem hasS_key {done : List (List T2)} {l : List T2} {n : Int} (hd : ∀ a ∈ done, framesB a n = true) (hl : framesB l n = true) (hn : n ≤ 10000) : hasS (done.map keyB) (keyB l) = decide (l ∈ done) := by
  rw [hasS_mem, decide_eq_decide, List.mem_map]
  constructor
  · rintro ⟨a, ha, e⟩
    rw [← keyB_inj (hd a ha) hl hn e]
    exact ha
  · exact fun h => ⟨l, h, rfl⟩
/-! #### are two stacks the same? -/
theorem eqF_iff (a b : T2) : eqF a b = true ↔ a = b := by
  unfold eqF
  rw [Bool.and_eq_true, beq_iff_eq, beq_iff_eq]
  exact ⟨fun h => T2_ext h.1 h.2, fun h => by rw [h]; exact ⟨rfl, rfl⟩⟩
theorem eqPre_iff (a b : List T2) : ∀ n, eqPre a b n = true ↔ ∀ i < n, a.getD i z50 = b.getD i z50
  | 0 => by simp [eqPre]
  | n + 1 => by
    unfold eqPre
    rw [Bool.and_eq_true, eqPre_iff a b n, eqF_iff]
    unfold rd_T50
    rw [Int.toNat_natCast]
    constructor
    · rintro ⟨h1, h2⟩ i hi
      rcases Nat.lt_or_ge i n with h | h
      · exact h1 i h
      · obtain rfl : i = n := by omega
        exact h2
    · exact fun h => ⟨fun i hi => h i (by omega), h n (by omega)⟩
theorem eqL_eq (a b : List T2) : eqL a b = decide (a = b) := by
  unfold eqL
  by_cases h : a.length = b.length
  · rw [if_pos h, Bool.eq_iff_iff, eqPre_iff, decide_eq_true_eq]
    constructor
    · intro hh
      refine List.ext_getElem h (fun i h1 h2 => ?_)
      have := hh i h1
      rwa [List.getD_eq_getElem?_getD, List.getD_eq_getElem?_getD, List.getElem?_eq_getElem h1, List.getElem?_eq_getElem h2, Option.getD_some, Option.getD_some] at this
    · rintro rfl i _
      rfl
  · rw [if_neg h]
    exact (decide_eq_false (fun e => h (by rw [e]))).symm
/-! #### a string more, a stack more -/
def strB (d : List ByteArray) (s : ByteArray) : List ByteArray × Int := if s.size = 0 then (d, 0) else if 0 ≤ fi (fun a => decide (a = s)) d 0 then (d, fi (fun a => decide (a = s)) d 0 + 1) else (d ++ [s], (d.length : Int) + 1)
def stB : List T4 → List ByteArray → List ByteArray × List T2
  | [], d => (d, [])
  | f :: fs, d => ((stB fs (strB d f.f0).1).1, ⟨(strB d f.f0).2, f.f1⟩ :: (stB fs (strB d f.f0).1).2)
def stkN (m : List (List T2)) (s : List T2) : List (List T2) × Int := if fi (fun a => decide (a = s)) m 0 < 0 then (m ++ [s], (m.length : Int) + 1) else (m, fi (fun a => decide (a = s)) m 0 + 1)
abbrev Tab := List ByteArray × List (List T2) × Int
def nil3 : Tab := (([] : List ByteArray), ([] : List (List T2)), (0 : Int))
def endT (d : List ByteArray) (m : List (List T2)) (n : Int) : Tab := if mayC d m = true then (d, m, n) else nil3
def StrT (d : List ByteArray) (m : List (List T2)) (s : ByteArray) : Tab := if mayC d m = true then endT (strB d s).1 m (strB d s).2 else nil3
def StkT (d : List ByteArray) (m : List (List T2)) (fs : List T4) : Tab := if mayC d m = true then (if fs.length = 0 then (d, m, 0) else endT (stB fs d).1 (stkN m (stB fs d).2).1 (stkN m (stB fs d).2).2) else nil3
def NameT (d : List ByteArray) (m : List (List T2)) (i : Int) : ByteArray × Bool := if i < 0 ∨ (d.length : Int) < i ∨ mayC d m = false then ((⟨#[]⟩ : ByteArray), false) else if i = 0 then ((⟨#[]⟩ : ByteArray), true) else (d.getD (i - 1).toNat ByteArray.empty, true)
def frm (d : List ByteArray) (x : T2) : T4 := ⟨d.getD (x.f0 - 1).toNat ByteArray.empty, x.f1⟩
def FramesT (d : List ByteArray) (m : List (List T2)) (i : Int) : List T4 × Bool := if i < 0 ∨ (m.length : Int) < i ∨ mayC d m = false then ([], false) else if i = 0 then ([], true) else ((m.getD (i - 1).toNat []).map (frm d), true)
theorem strB_len (d : List ByteArray) (s : ByteArray) : d.length ≤ (strB d s).1.length ∧ (strB d s).1.length ≤ d.length + 1 := by
  unfold strB
  split
  · exact ⟨Nat.le_refl _, Nat.le_succ _⟩
  · split
    · exact ⟨Nat.le_refl _, Nat.le_succ _⟩
    · exact ⟨by simp, by simp⟩
theorem stB_len : ∀ (fs : List T4) (d : List ByteArray), (stB fs d).2.length = fs.length ∧ d.length ≤ (stB fs d).1.length ∧ (stB fs d).1.length ≤ d.length + fs.length
  | [], d => by simp [stB]
  | f :: fs, d => by
    have := stB_len fs (strB d f.f0).1
    have := strB_len d f.f0
    simp only [stB, List.length_cons]
    omega
end Go.Proofs.Ytijjfomnidckdaa.Q

/- What the program's functions over tables come to. For every table. -/
namespace Go.Proofs.Ytijjfomnidckdaa.Q
open Go Go.RowKit Go.Proofs.YtijjfomnidckdaaW.PrintWords Go.Proofs.YtijjfomnidckdaaW.PrintLast Go.Proofs.YtijjfomnidckdaaW.PrintMore ShCore
theorem len1 {α : Type} (pre : List α) (a : α) : (pre ++ [a]).length = pre.length + 1 := by simp
theorem evIf {α : Type} {c : Prop} [Decidable c] {g f : Nat → Option α} {a b : α} (h1 : c → Ev g a) (h2 : ¬ c → Ev f b) : Ev (fun n => if c then g n else f n) (if c then a else b) := by
  by_cases h : c
  · rw [if_pos h]; exact evYes h (h1 h)
  · rw [if_neg h]; exact evNo h (h2 h)
theorem sAll_run : ∀ (rest pre : List ByteArray), sPre (pre ++ rest) (pre ++ rest).length = (sPre (pre ++ rest) pre.length && sAll pre rest)
  | [], pre => by simp [sAll]
  | s :: r, pre => by
    have ih := sAll_run r (pre ++ [s])
    rw [← mid_snoc] at ih
    rw [ih, List.length_append, List.length_singleton]
    show (sPre _ pre.length && sOk _ pre.length && sAll _ _) = (_ && sAll pre (s :: r))
    have e : sOk (pre ++ s :: r) pre.length = (decide (1 ≤ s.size) && decide (s.size ≤ 1000) && !decide (s ∈ pre)) := by
      unfold sOk
      rw [rdOf_mid, hasS_mem, List.take_left]
      congr 1
      congr 1
      · rw [Bool.eq_iff_iff, Bool.not_eq_true', beq_eq_false_iff_ne, decide_eq_true_eq, ne_eq, nil_lst]
        omega
      · rw [Bool.eq_iff_iff, Bool.not_eq_true', decide_eq_false_iff_not, decide_eq_true_eq]
        omega
    rw [e]
    simp only [sAll, Bool.and_assoc]
theorem sPre_eq (d : List ByteArray) : sPre d d.length = sAll [] d := by
  have h := sAll_run d []
  simpa [sPre] using h
theorem intern_key.l0_ev : ∀ (rest pre : List T2) (acc : ByteArray), (∀ x ∈ rest, fine x) → acc.size + 18 * rest.length ≤ 4000 → pre.length + rest.length ≤ 100 → Ev (fun k => intern_key.l0 k (pre ++ rest) acc (pre.length : Int)) (acc ++ keyB rest)
  | [], pre, acc, _, _, _ => by
    refine Ev.step (fun k => intern_key.l0.eq_2 ..) (evNo (nlt_end pre) ?_)
    have e : acc ++ keyB [] = acc := lst_inj (by rw [lst_append]; exact List.append_nil _)
    rw [e]
    exact Ev.now _
  | x :: r, pre, acc, hf, hs, hl => by
    refine Ev.step (fun k => intern_key.l0.eq_2 ..) (evYes (lt_mid pre x r) (evYes (by omega) ?_))
    rw [rd2_mid]
    have p0 := put_len x.f0
    have p1 := put_len x.f1
    simp only [List.length_cons] at hs hl
    refine Ev.bind (varint_Put.ev x.f0) (Ev.bind (varint_Put.ev x.f1) (evYes (by rw [size_arr, size_arr]; omega) ?_))
    rw [w_snoc pre x (by omega), mid_snoc pre x r]
    have ih := intern_key.l0_ev r (pre ++ [x]) (acc ++ (arr (put x.f0) ++ arr (put x.f1))) (fun y hy => hf y (by simp [hy])) (by rw [arr_append, ByteArray.size_append, size_arr, List.length_append]; omega) (by rw [List.length_append, List.length_singleton]; omega)
    have e : acc ++ (arr (put x.f0) ++ arr (put x.f1)) ++ keyB r = acc ++ keyB (x :: r) := by
      unfold keyB
      rw [ByteArray.append_assoc, arr_append, arr_append]
      rfl
    rw [e] at ih
    exact ih
theorem intern_key.ev {l : List T2} {n : Int} (h : framesB l n = true) (hn : n ≤ 10000) : Ev (fun k => intern_key.f k l) (keyB l) := by
  have hl := ((framesB_iff l n).1 h).1
  have ih := intern_key.l0_ev l [] (⟨#[]⟩ : ByteArray) (fine_of h hn) (by show 0 + _ ≤ _; omega) (by show 0 + _ ≤ _; omega)
  have e : (⟨#[]⟩ : ByteArray) ++ keyB l = keyB l := by
    show arr [] ++ arr _ = arr _
    rw [arr_append]
    rfl
  rw [e] at ih
  exact ih
theorem keyB_size {l : List T2} {n : Int} (h : framesB l n = true) : (keyB l).size ≤ 1800 := by
  have hl := ((framesB_iff l n).1 h).1
  have := keyL_len l
  unfold keyB
  rw [size_arr]
  omega
theorem intern_May.l1_ev (n : Int) (hn : n ≤ 10000) : ∀ (rest done : List (List T2)), (∀ a ∈ done, framesB a n = true) → Ev (fun k => intern_May.l1 k n (done ++ rest) (done.map keyB) (done.length : Int)) (kAll n done rest)
  | [], done, _ => Ev.step (fun k => intern_May.l1.eq_2 ..) (evNo (nlt_end done) (Ev.now _))
  | l :: r, done, hd => by
    refine Ev.step (fun k => intern_May.l1.eq_2 ..) (evYes (lt_mid done l r) ?_)
    rw [rdS_mid]
    unfold kAll
    by_cases h : framesB l n = true
    · refine evYes h (Ev.bind (intern_key.ev h hn) (evYes (by have := keyB_size h; omega) ?_))
      rw [hasS_key hd h hn, h]
      by_cases hm : l ∈ done
      · rw [decide_eq_true hm]
        exact evYes rfl (Ev.now _)
      · rw [decide_eq_false hm]
        refine evNo Bool.false_ne_true ?_
        have ih := intern_May.l1_ev n hn r (done ++ [l]) (fun a ha => by rcases List.mem_append.1 ha with h1 | h1; (· exact hd a h1); (· rw [List.mem_singleton.1 h1]; exact h))
        rw [List.map_append, ← snoc_len, ← mid_snoc] at ih
        simpa using ih
    · refine evNo h ?_
      rw [Bool.not_eq_true _ |>.mp h]
      exact Ev.now _
theorem intern_May.ev (d : List ByteArray) (m : List (List T2)) : Ev (fun k => intern_May.f k d m) (mayC d m) := by
  unfold mayC
  by_cases h1 : 10000 < d.length
  · rw [decide_eq_false (show ¬ d.length ≤ 10000 by omega)]
    exact evYes h1 (Ev.now _)
  refine evNo h1 ?_
  by_cases h2 : 10000 < m.length
  · rw [decide_eq_false (show ¬ m.length ≤ 10000 by omega), Bool.and_false]
    exact evYes h2 (Ev.now _)
  refine evNo h2 ?_
  rw [decide_eq_true (show d.length ≤ 10000 by omega), decide_eq_true (show m.length ≤ 10000 by omega), sPre_eq]
  by_cases h3 : sAll [] d = true
  · rw [h3]
    refine evYes rfl ?_
    have h := intern_May.l1_ev (d.length : Int) (by omega) m [] (by simp)
    simpa using h
  · rw [Bool.not_eq_true _ |>.mp h3]
    exact evNo Bool.false_ne_true (Ev.now _)
theorem clone_s {d : List ByteArray} (h : d.length ≤ 10000) : slices_Clone_string_string.f d = some d := if_pos (by omega)
theorem clone_f {l : List T2} (h : l.length ≤ 100) : slices_Clone_2_int_2_int.f l = some l := if_pos (by omega)
theorem intern_copied.l0_ev (d : List ByteArray) : ∀ (rest done : List (List T2)), (∀ l ∈ rest, l.length ≤ 100) → done.length + rest.length ≤ 10000 → Ev (fun k => intern_copied.l0 k (done ++ rest) ((done ++ rest).length : Int) (done.length : Int) d done) (d, done ++ rest)
  | [], done, _, _ => by
    rw [List.append_nil]
    exact Ev.step (fun k => intern_copied.l0.eq_2 ..) (evNo (by omega) (Ev.now _))
  | l :: r, done, hl, hs => by
    simp only [List.length_cons] at hs
    refine Ev.step (fun k => intern_copied.l0.eq_2 ..) (evYes (lt_mid done l r) (evYes (by omega) (evYes (lt_mid done l r) ?_)))
    rw [rdL_mid]
    refine Ev.bind (evC (clone_f (hl l (by simp)))) (evYes (by omega) ?_)
    rw [w_snoc done l (by omega), mid_snoc done l r]
    exact intern_copied.l0_ev d r (done ++ [l]) (fun a ha => hl a (by simp [ha])) (by rw [List.length_append, List.length_singleton]; omega)
theorem intern_copied.ev {d : List ByteArray} {m : List (List T2)} (h : MayP d m) : Ev (fun k => intern_copied.f k d m) (d, m) := by
  refine Ev.bind (evC (clone_s h.1)) ?_
  exact intern_copied.l0_ev d m [] (fun l hl => ((framesB_iff l _).1 (h.2.2.2.2.1 l hl)).1.2) (by have := h.2.1; simp; omega)
theorem slices_Index_string_string.l0_ev (s : ByteArray) : ∀ (rest pre : List ByteArray), pre.length + rest.length < 4611686018427387904 → Ev (fun k => slices_Index_string_string.l0 k (pre ++ rest) s ((pre ++ rest).length : Int) (pre.length : Int)) (fi (fun a => decide (a = s)) rest pre.length)
  | [], pre, _ => Ev.step (fun k => slices_Index_string_string.l0.eq_2 ..) (evNo (nlt_end pre) (Ev.now _))
  | a :: r, pre, hs => by
    simp only [List.length_cons] at hs
    refine Ev.step (fun k => slices_Index_string_string.l0.eq_2 ..) (evYes (lt_mid pre a r) (evYes (by omega) (evYes (lt_mid pre a r) ?_)))
    rw [rdOf_mid]
    unfold fi
    by_cases h : a = s
    · rw [if_pos (decide_eq_true h)]
      exact evYes (by rw [h]) (Ev.now _)
    · rw [if_neg (by simp [h])]
      refine evNo (fun e => h (eq_lst.1 e).symm) ?_
      rw [w_snoc pre a (by omega), mid_snoc pre a r]
      have ih := slices_Index_string_string.l0_ev s r (pre ++ [a]) (by rw [List.length_append, List.length_singleton]; omega)
      rwa [len1 pre a] at ih ⊢
theorem fi_wrap {α : Type} (p : α → Bool) (l : List α) (h : l.length < 4611686018427387904) : wrap64 (fi p l 0 + 1) = fi p l 0 + 1 := by
  rcases fi_spec p l 0 with ⟨e, _⟩ | ⟨j, hj, e, _⟩
  · rw [e]; unfold wrap64; omega
  · rw [e]
    unfold wrap64
    omega
theorem intern_str.ev (d : List ByteArray) (s : ByteArray) (h : d.length < 8796093022207) : Ev (fun k => intern_str.f k d s) (strB d s) := by
  unfold strB
  by_cases h1 : s.size = 0
  · rw [if_pos h1]
    exact evYes (nil_lst.2 h1) (Ev.now _)
  rw [if_neg h1]
  refine evNo (fun e => h1 (nil_lst.1 e)) (Ev.bind (slices_Index_string_string.l0_ev s d [] (by show 0 + _ < _; omega)) ?_)
  refine evIf (fun h2 => ?_) (fun h2 => evYes h (Ev.now _))
  rw [show ([] : List ByteArray).length = 0 from rfl, fi_wrap _ _ (by omega)]
  exact Ev.now _
theorem endT_ev (d : List ByteArray) (m : List (List T2)) (n : Int) : Ev (fun k => (intern_May.f k d m).bind fun u => if u = true then some (d, m, n) else some nil3) (endT d m n) := by
  exact Ev.bind (intern_May.ev d m) (evIf (fun _ => Ev.now _) (fun _ => Ev.now _))
theorem intern_String.ev (d : List ByteArray) (m : List (List T2)) (s : ByteArray) : Ev (fun k => intern_String.f k d m s) (StrT d m s) := by
  refine Ev.bind (intern_May.ev d m) (evIf (fun h => ?_) (fun _ => Ev.now _))
  have hp := (mayC_iff d m).1 h
  exact Ev.bind (intern_copied.ev hp) (Ev.bind (intern_str.ev d s (by have := hp.1; omega)) (endT_ev _ _ _))
theorem idxS_ev (s : List T2) : ∀ (rest pre : List (List T2)), Ev (fun k => idxS k (pre ++ rest) s (pre.length : Int)) (fi (fun a => decide (a = s)) rest pre.length)
  | [], pre => Ev.step (fun k => idxS.eq_2 ..) (evNo (nlt_end pre) (Ev.now _))
  | a :: r, pre => by
    refine Ev.step (fun k => idxS.eq_2 ..) (evYes (lt_mid pre a r) ?_)
    rw [rdS_mid, eqL_eq]
    unfold fi
    by_cases h : a = s
    · rw [if_pos (decide_eq_true h)]
      exact evYes (decide_eq_true h) (Ev.now _)
    · rw [if_neg (by simp [h])]
      refine evNo (by simp [h]) ?_
      rw [snoc_len pre a, mid_snoc pre a r]
      have ih := idxS_ev s r (pre ++ [a])
      rwa [len1 pre a] at ih ⊢
theorem stL_ev : ∀ (rest pre : List T4) (d : List ByteArray) (st : List T2), d.length + rest.length ≤ 1000000 → st.length + rest.length ≤ 1000000 → Ev (fun k => stL k (pre ++ rest) d st (pre.length : Int)) ((stB rest d).1, st ++ (stB rest d).2)
  | [], pre, d, st, _, _ => by
    refine Ev.step (fun k => stL.eq_2 ..) (evNo (nlt_end pre) ?_)
    simp only [stB, List.append_nil]
    exact Ev.now _
  | f :: r, pre, d, st, h1, h2 => by
    simp only [List.length_cons] at h1 h2
    refine Ev.step (fun k => stL.eq_2 ..) (evYes (lt_mid pre f r) ?_)
    rw [rd4_mid]
    refine Ev.bind (intern_str.ev d f.f0 (by omega)) (evYes (by omega) ?_)
    rw [snoc_len pre f, mid_snoc pre f r]
    have hl := strB_len d f.f0
    have ih := stL_ev r (pre ++ [f]) (strB d f.f0).1 (st ++ [⟨(strB d f.f0).2, f.f1⟩]) (by omega) (by rw [List.length_append, List.length_singleton]; omega)
    have e : st ++ (stB (f :: r) d).2 = st ++ [⟨(strB d f.f0).2, f.f1⟩] ++ (stB r (strB d f.f0).1).2 := by simp [stB]
    rw [e]
    exact ih
theorem intern_Stack.ev (d : List ByteArray) (m : List (List T2)) (fs : List T4) (hf : fs.length ≤ 1000) : Ev (fun k => intern_Stack.f k d m fs) (StkT d m fs) := by
  refine Ev.bind (intern_May.ev d m) (evIf (fun h => ?_) (fun _ => Ev.now _))
  have hp := (mayC_iff d m).1 h
  refine Ev.bind (intern_copied.ev hp) (evIf (fun _ => Ev.now _) (fun h0 => ?_))
  refine Ev.bind (stL_ev fs [] d [] (by have := hp.1; omega) (by show 0 + _ ≤ _; omega)) (Ev.bind (idxS_ev ((stB fs d).2) m []) ?_)
  unfold stkN
  by_cases h2 : fi (fun a => decide (a = (stB fs d).2)) m 0 < 0
  · have e : (if fi (fun a => decide (a = (stB fs d).2)) m 0 < 0 then (m ++ [(stB fs d).2], (m.length : Int) + 1) else (m, fi (fun a => decide (a = (stB fs d).2)) m 0 + 1)) = (m ++ [(stB fs d).2], (m.length : Int) + 1) := if_pos h2
    rw [e]
    exact evYes h2 (evYes (by have := hp.2.1; show m.length < _; omega) (endT_ev _ _ _))
  · have e : (if fi (fun a => decide (a = (stB fs d).2)) m 0 < 0 then (m ++ [(stB fs d).2], (m.length : Int) + 1) else (m, fi (fun a => decide (a = (stB fs d).2)) m 0 + 1)) = (m, fi (fun a => decide (a = (stB fs d).2)) m 0 + 1) := if_neg h2
    rw [e]
    refine evNo h2 ?_
    rw [show ([] : List (List T2)).length = 0 from rfl, fi_wrap _ _ (by have := hp.2.1; omega)]
    exact endT_ev _ _ _
theorem w_pred {i : Int} {n : Nat} (h0 : ¬ i < 0) (h1 : ¬ i > (n : Int)) (h2 : ¬ i = 0) (hn : n < 4611686018427387904) : wrap64 (i - 1) = i - 1 ∧ 0 ≤ i - 1 ∧ i - 1 < (n : Int) := by
  unfold wrap64
  omega
theorem NameT_out {d : List ByteArray} {m : List (List T2)} {i : Int} (h : i < 0 ∨ (d.length : Int) < i ∨ mayC d m = false) : NameT d m i = ((⟨#[]⟩ : ByteArray), false) := if_pos h
theorem FramesT_out {d : List ByteArray} {m : List (List T2)} {i : Int} (h : i < 0 ∨ (m.length : Int) < i ∨ mayC d m = false) : FramesT d m i = ([], false) := if_pos h
theorem NameT_in {d : List ByteArray} {m : List (List T2)} {i : Int} (h : ¬ (i < 0 ∨ (d.length : Int) < i ∨ mayC d m = false)) : NameT d m i = if i = 0 then ((⟨#[]⟩ : ByteArray), true) else (d.getD (i - 1).toNat ByteArray.empty, true) := if_neg h
theorem FramesT_in {d : List ByteArray} {m : List (List T2)} {i : Int} (h : ¬ (i < 0 ∨ (m.length : Int) < i ∨ mayC d m = false)) : FramesT d m i = if i = 0 then ([], true) else ((m.getD (i - 1).toNat []).map (frm d), true) := if_neg h
theorem intern_Name.ev (d : List ByteArray) (m : List (List T2)) (i : Int) : Ev (fun k => intern_Name.f k d m i) (NameT d m i) := by
  have out : Ev (fun k => intern_Name.j0 k i true d m) ((⟨#[]⟩ : ByteArray), false) := Ev.step (fun k => intern_Name.j0.eq_2 ..) (evYes rfl (Ev.now _))
  by_cases h0 : i < 0
  · rw [NameT_out (.inl h0)]; exact evYes h0 out
  refine evNo h0 ?_
  by_cases h1 : i > (d.length : Int)
  · rw [NameT_out (.inr (.inl h1))]; exact evYes h1 out
  refine evNo h1 (Ev.bind (intern_May.ev d m) ?_)
  cases hm : mayC d m with
  | false => rw [NameT_out (.inr (.inr hm))]; exact out
  | true =>
    have hp := (mayC_iff d m).1 hm
    rw [NameT_in (by rintro (h | h | h); (· exact h0 h); (· exact h1 h); (· rw [hm] at h; exact absurd h (by simp)))]
    refine Ev.step (fun k => intern_Name.j0.eq_2 ..) (evNo (by simp) (evIf (fun _ => Ev.now _) (fun h2 => ?_)))
    obtain ⟨e, q0, q1⟩ := w_pred h0 h1 h2 (by have := hp.1; omega)
    rw [e]
    exact evYes q0 (evYes q1 (Ev.now _))
theorem good_id {d : List ByteArray} {l : List T2} (h : framesB l d.length = true) (hd : d.length ≤ 10000) {x : T2} (hx : x ∈ l) : wrap64 (x.f0 - 1) = x.f0 - 1 ∧ 0 ≤ x.f0 - 1 ∧ x.f0 - 1 < (d.length : Int) := by
  have := ((framesB_iff l _).1 h).2 x hx
  unfold wrap64
  omega
theorem intern_Frames.l0_ev (d : List ByteArray) (m : List (List T2)) (hd : d.length ≤ 10000) : ∀ (rest pre : List T2) (acc : List T4), framesB (pre ++ rest) d.length = true → acc.length + rest.length ≤ 100 → pre.length + rest.length ≤ 100 → Ev (fun k => intern_Frames.l0 k acc (pre ++ rest) ((pre ++ rest).length : Int) (pre.length : Int) d m) (acc ++ rest.map (frm d), true)
  | [], pre, acc, _, _, _ => by
    refine Ev.step (fun k => intern_Frames.l0.eq_2 ..) (evNo (nlt_end pre) ?_)
    simp only [List.map_nil, List.append_nil]
    exact Ev.now _
  | x :: r, pre, acc, hg, hl, hp => by
    simp only [List.length_cons] at hl hp
    obtain ⟨e, q0, q1⟩ := good_id hg hd (x := x) (by simp)
    refine Ev.step (fun k => intern_Frames.l0.eq_2 ..) (evYes (lt_mid pre x r) (evYes (by omega) (evYes (lt_mid pre x r) ?_)))
    rw [rd2_mid, e]
    refine evYes q0 (evYes q1 (evYes (by omega) ?_))
    rw [w_snoc pre x (by omega), mid_snoc pre x r]
    have ih := intern_Frames.l0_ev d m hd r (pre ++ [x]) (acc ++ [frm d x]) (by rw [← mid_snoc]; exact hg) (by rw [List.length_append, List.length_singleton]; omega) (by rw [List.length_append, List.length_singleton]; omega)
    have e2 : acc ++ (x :: r).map (frm d) = acc ++ [frm d x] ++ r.map (frm d) := by simp
    rw [e2]
    exact ih
theorem intern_Frames.ev (d : List ByteArray) (m : List (List T2)) (i : Int) : Ev (fun k => intern_Frames.f k d m i) (FramesT d m i) := by
  have out : Ev (fun k => intern_Frames.j0 k i true d m) (([] : List T4), false) := Ev.step (fun k => intern_Frames.j0.eq_2 ..) (evYes rfl (Ev.now _))
  by_cases h0 : i < 0
  · rw [FramesT_out (.inl h0)]; exact evYes h0 out
  refine evNo h0 ?_
  by_cases h1 : i > (m.length : Int)
  · rw [FramesT_out (.inr (.inl h1))]; exact evYes h1 out
  refine evNo h1 (Ev.bind (intern_May.ev d m) ?_)
  cases hm : mayC d m with
  | false => rw [FramesT_out (.inr (.inr hm))]; exact out
  | true =>
    have hp := (mayC_iff d m).1 hm
    rw [FramesT_in (by rintro (h | h | h); (· exact h0 h); (· exact h1 h); (· rw [hm] at h; exact absurd h (by simp)))]
    refine Ev.step (fun k => intern_Frames.j0.eq_2 ..) (evNo (by simp) (evIf (fun _ => Ev.now _) (fun h2 => ?_)))
    obtain ⟨e, q0, q1⟩ := w_pred h0 h1 h2 (by have := hp.2.1; omega)
    rw [e]
    refine evYes q0 (evYes q1 ?_)
    have hmem : m.getD (i - 1).toNat [] ∈ m := by
      rw [List.getD_eq_getElem?_getD, List.getElem?_eq_getElem (show (i - 1).toNat < m.length by omega), Option.getD_some]
      exact List.getElem_mem _
    have hg := hp.2.2.2.2.1 _ hmem
    have hl := ((framesB_iff _ _).1 hg).1.2
    exact intern_Frames.l0_ev d m hp.1 (m.getD (i - 1).toNat []) [] [] hg (by show 0 + _ ≤ _; omega) (by show 0 + _ ≤ _; omega)
end Go.Proofs.Ytijjfomnidckdaa.Q

/- What the document's functions over tables come to. For every table. -/
namespace Go.Proofs.Ytijjfomnidckdaa.Q
open Go Go.RowKit Go.Proofs.YtijjfomnidckdaaW.PrintWords Go.Proofs.YtijjfomnidckdaaW.PrintLast Go.Proofs.YtijjfomnidckdaaW.PrintMore ShCore
theorem shuttlecockref06_SameStack.l0_ev : ∀ (ra rb pa pb : List T2), pa.length = pb.length → ra.length = rb.length → pa.length + ra.length < 4611686018427387904 → Ev (fun k => shuttlecockref06_SameStack.l0 k (pa ++ ra) (pb ++ rb) (pa.length : Int)) (decide (ra = rb))
  | [], [], pa, pb, _, _, _ => Ev.step (fun k => shuttlecockref06_SameStack.l0.eq_2 ..) (evNo (nlt_end pa) (Ev.now _))
  | [], _ :: _, _, _, _, h, _ => by simp at h
  | _ :: _, [], _, _, _, h, _ => by simp at h
  | a :: ra, b :: rb, pa, pb, hp, hr, hs => by
    simp only [List.length_cons] at hr hs
    refine Ev.step (fun k => shuttlecockref06_SameStack.l0.eq_2 ..) (evYes (lt_mid pa a ra) (evYes (by omega) (evYes (by rw [hp]; exact lt_mid pb b rb) ?_)))
    rw [rd2_mid]
    have e2 : rd_T50 (pb ++ b :: rb) (pa.length : Int) = b := by rw [hp]; exact rd2_mid pb b rb
    rw [e2]
    by_cases h : a = b
    · subst h
      refine evNo (by simp) ?_
      rw [w_snoc pa a (by omega), mid_snoc pa a ra, mid_snoc pb a rb]
      have ih := shuttlecockref06_SameStack.l0_ev ra rb (pa ++ [a]) (pb ++ [a]) (by simp [hp]) (by omega) (by rw [len1]; omega)
      have e : decide (a :: ra = a :: rb) = decide (ra = rb) := by simp
      rw [e]
      exact ih
    · refine evYes (by
        rw [Bool.or_eq_true, Bool.not_eq_true', Bool.not_eq_true', beq_eq_false_iff_ne, beq_eq_false_iff_ne]
        by_cases h1 : a.f0 = b.f0
        · exact .inr (fun h2 => h (T2_ext h1 h2))
        · exact .inl h1) ?_
      have e : decide (a :: ra = b :: rb) = false := decide_eq_false (fun e => h (List.cons.inj e).1)
      rw [e]
      exact Ev.now _
theorem shuttlecockref06_SameStack.ev (a b : List T2) (h : a.length < 4611686018427387904) : Ev (fun k => shuttlecockref06_SameStack.f k a b) (decide (a = b)) := by
  by_cases hl : a.length = b.length
  · exact evYes (by omega) (shuttlecockref06_SameStack.l0_ev a b [] [] rfl hl (by show 0 + _ < _; omega))
  · rw [decide_eq_false (fun e => hl (by rw [e]))]
    exact evNo (by omega) (Ev.now _)
theorem shuttlecockref06_SameFrames.l0_ev : ∀ (ra rb pa pb : List T4), pa.length = pb.length → ra.length = rb.length → pa.length + ra.length < 4611686018427387904 → Ev (fun k => shuttlecockref06_SameFrames.l0 k (pa ++ ra) (pb ++ rb) (pa.length : Int)) (decide (ra = rb))
  | [], [], pa, pb, _, _, _ => Ev.step (fun k => shuttlecockref06_SameFrames.l0.eq_2 ..) (evNo (nlt_end pa) (Ev.now _))
  | [], _ :: _, _, _, _, h, _ => by simp at h
  | _ :: _, [], _, _, _, h, _ => by simp at h
  | a :: ra, b :: rb, pa, pb, hp, hr, hs => by
    simp only [List.length_cons] at hr hs
    refine Ev.step (fun k => shuttlecockref06_SameFrames.l0.eq_2 ..) (evYes (lt_mid pa a ra) (evYes (by omega) (evYes (by rw [hp]; exact lt_mid pb b rb) ?_)))
    rw [rd4_mid]
    have e2 : rd_T45 (pb ++ b :: rb) (pa.length : Int) = b := by rw [hp]; exact rd4_mid pb b rb
    rw [e2]
    by_cases h : a = b
    · subst h
      refine evNo (by simp) ?_
      rw [w_snoc pa a (by omega), mid_snoc pa a ra, mid_snoc pb a rb]
      have ih := shuttlecockref06_SameFrames.l0_ev ra rb (pa ++ [a]) (pb ++ [a]) (by simp [hp]) (by omega) (by rw [len1]; omega)
      have e : decide (a :: ra = a :: rb) = decide (ra = rb) := by simp
      rw [e]
      exact ih
    · refine evYes (by
        rw [Bool.or_eq_true, Bool.not_eq_true', Bool.not_eq_true', beq_eq_false_iff_ne, beq_eq_false_iff_ne]
        by_cases h1 : a.f0 = b.f0
        · exact .inr (fun h2 => h (T4_ext h1 h2))
        · exact .inl (fun e => h1 (eq_lst.1 e))) ?_
      have e : decide (a :: ra = b :: rb) = false := decide_eq_false (fun e => h (List.cons.inj e).1)
      rw [e]
      exact Ev.now _
theorem shuttlecockref06_SameFrames.ev (a b : List T4) (h : a.length < 4611686018427387904) : Ev (fun k => shuttlecockref06_SameFrames.f k a b) (decide (a = b)) := by
  by_cases hl : a.length = b.length
  · exact evYes (by omega) (shuttlecockref06_SameFrames.l0_ev a b [] [] rfl hl (by show 0 + _ < _; omega))
  · rw [decide_eq_false (fun e => hl (by rw [e]))]
    exact evNo (by omega) (Ev.now _)
theorem shuttlecockref06_stack.l0_ev (s : List T2) : ∀ (rest pre : List (List T2)), (∀ l ∈ rest, l.length < 4611686018427387904) → pre.length + rest.length < 4611686018427387904 → Ev (fun k => shuttlecockref06_stack.l0 k (pre ++ rest) s (pre.length : Int)) (fi (fun a => decide (a = s)) rest pre.length)
  | [], pre, _, _ => Ev.step (fun k => shuttlecockref06_stack.l0.eq_2 ..) (evNo (nlt_end pre) (Ev.now _))
  | a :: r, pre, hl, hs => by
    simp only [List.length_cons] at hs
    refine Ev.step (fun k => shuttlecockref06_stack.l0.eq_2 ..) (evYes (lt_mid pre a r) (evYes (by omega) ?_))
    rw [rdL_mid]
    refine Ev.bind (shuttlecockref06_SameStack.ev a s (hl a (by simp))) ?_
    unfold fi
    refine evIf (fun _ => Ev.now _) (fun _ => ?_)
    rw [w_snoc pre a (by omega), mid_snoc pre a r]
    have ih := shuttlecockref06_stack.l0_ev s r (pre ++ [a]) (fun l h => hl l (by simp [h])) (by rw [len1]; omega)
    rwa [len1 pre a] at ih ⊢
theorem shuttlecockref06_stack.ev (m : List (List T2)) (s : List T2) (hl : ∀ l ∈ m, l.length < 4611686018427387904) (hs : m.length < 4611686018427387904) : Ev (fun k => shuttlecockref06_stack.f k m s) (fi (fun a => decide (a = s)) m 0) := shuttlecockref06_stack.l0_ev s m [] hl (by show 0 + _ < _; omega)
theorem shuttlecockref06_find.l0_ev (s : ByteArray) : ∀ (rest pre : List ByteArray), pre.length + rest.length < 4611686018427387904 → Ev (fun k => shuttlecockref06_find.l0 k (pre ++ rest) s (pre.length : Int)) (fi (fun a => decide (a = s)) rest pre.length)
  | [], pre, _ => Ev.step (fun k => shuttlecockref06_find.l0.eq_2 ..) (evNo (nlt_end pre) (Ev.now _))
  | a :: r, pre, hs => by
    simp only [List.length_cons] at hs
    refine Ev.step (fun k => shuttlecockref06_find.l0.eq_2 ..) (evYes (lt_mid pre a r) (evYes (by omega) ?_))
    rw [rdOf_mid]
    unfold fi
    by_cases h : a = s
    · rw [if_pos (decide_eq_true h)]
      exact evYes (by rw [h]) (Ev.now _)
    · rw [if_neg (by simp [h])]
      refine evNo (fun e => h (eq_lst.1 e)) ?_
      rw [w_snoc pre a (by omega), mid_snoc pre a r]
      have ih := shuttlecockref06_find.l0_ev s r (pre ++ [a]) (by rw [len1]; omega)
      rwa [len1 pre a] at ih ⊢
theorem shuttlecockref06_find.ev (d : List ByteArray) (s : ByteArray) (hs : d.length < 4611686018427387904) : Ev (fun k => shuttlecockref06_find.f k d s) (fi (fun a => decide (a = s)) d 0) := shuttlecockref06_find.l0_ev s d [] (by show 0 + _ < _; omega)
/-- the first place is this one: nothing like it lies ahead -/
theorem fi_self {α : Type} [DecidableEq α] (pre : List α) (a : α) (r : List α) : fi (fun b => decide (b = a)) (pre ++ a :: r) 0 = (pre.length : Int) ↔ a ∉ pre := by
  constructor
  · intro h ha
    obtain ⟨j, e, hj⟩ := fi_pre (fun b => decide (b = a)) (a :: r) pre 0 ⟨a, ha, by simp⟩
    rw [h] at e
    omega
  · intro ha
    rw [fi_mid (fun b => decide (b = a)) a r (by simp) pre 0 (fun b hb => decide_eq_false (fun e => ha (e ▸ hb)))]
    omega
theorem shuttlecockref06_May.l2_ev (d : List ByteArray) (m : List (List T2)) (x : Int) (b : Bool) (hb : Ev (fun k => shuttlecockref06_May.l1 k (wrap64 (x + 1)) d m) b) : ∀ (rest pre : List T2), pre.length + rest.length < 4611686018427387904 → Ev (fun k => shuttlecockref06_May.l2 k x (pre ++ rest) (pre.length : Int) d m) (!rest.any (outF d.length) && b)
  | [], pre, _ => by
    refine Ev.step (fun k => shuttlecockref06_May.l2.eq_2 ..) (evNo (nlt_end pre) ?_)
    simpa using hb
  | a :: r, pre, hs => by
    simp only [List.length_cons] at hs
    refine Ev.step (fun k => shuttlecockref06_May.l2.eq_2 ..) (evYes (lt_mid pre a r) (evYes (by omega) ?_))
    rw [rd2_mid]
    have e : (!(a :: r).any (outF d.length)) = (!outF d.length a && !r.any (outF d.length)) := by rw [List.any_cons, Bool.not_or]
    rw [e]
    unfold outF
    by_cases h1 : a.f0 < 1
    · rw [decide_eq_true h1]
      exact evYes h1 (Ev.now _)
    rw [decide_eq_false h1]
    refine evNo h1 ?_
    by_cases h2 : a.f0 > (d.length : Int)
    · rw [decide_eq_true (show (d.length : Int) < a.f0 from h2)]
      exact evYes h2 (Ev.now _)
    rw [decide_eq_false (show ¬ (d.length : Int) < a.f0 from h2)]
    refine evNo h2 ?_
    have hf : shuttlecockref04_Fits.f a.f1 = some (!(decide (a.f1 < 0) || decide (4611686018427387904 ≤ a.f1))) := by
      unfold shuttlecockref04_Fits.f
      by_cases h3 : a.f1 ≥ 0
      · rw [if_pos h3, decide_eq_false (show ¬ a.f1 < 0 by omega), Bool.false_or]
        congr 1
        rw [Bool.eq_iff_iff, Bool.not_eq_true', decide_eq_false_iff_not, decide_eq_true_eq]
        omega
      · rw [if_neg h3, decide_eq_true (show a.f1 < 0 by omega)]
        rfl
    refine Ev.bind (evC hf) ?_
    rw [Bool.false_or, Bool.false_or]
    cases h4 : (decide (a.f1 < 0) || decide (4611686018427387904 ≤ a.f1)) with
    | true => exact evNo (by simp) (Ev.now _)
    | false =>
      refine evYes rfl ?_
      rw [w_snoc pre a (by omega), mid_snoc pre a r]
      have ih := shuttlecockref06_May.l2_ev d m x b hb r (pre ++ [a]) (by rw [len1]; omega)
      exact ih
theorem shuttlecockref06_May.l1_ev (d : List ByteArray) : ∀ (rest done : List (List T2)), (∀ l ∈ done ++ rest, l.length < 4611686018427387904) → done.length + rest.length ≤ 10000 → Ev (fun k => shuttlecockref06_May.l1 k (done.length : Int) d (done ++ rest)) (kAll d.length done rest)
  | [], done, _, _ => Ev.step (fun k => shuttlecockref06_May.l1.eq_2 ..) (evNo (nlt_end done) (Ev.now _))
  | l :: r, done, hl, hs => by
    simp only [List.length_cons] at hs
    have hll := hl l (by simp)
    have out : Ev (fun k => shuttlecockref06_May.j3 k (done.length : Int) l true d (done ++ l :: r)) false := Ev.step (fun k => shuttlecockref06_May.j3.eq_2 ..) (evYes rfl (Ev.now _))
    refine Ev.step (fun k => shuttlecockref06_May.l1.eq_2 ..) (evYes (lt_mid done l r) (evYes (by omega) ?_))
    rw [rdL_mid]
    unfold kAll framesB
    by_cases h1 : (l.length : Int) < 1
    · rw [if_pos (show l.length = 0 ∨ 100 < l.length by omega)]
      exact evYes h1 out
    refine evNo h1 ?_
    by_cases h2 : (l.length : Int) > 100
    · rw [if_pos (show l.length = 0 ∨ 100 < l.length by omega)]
      exact evYes h2 out
    refine evNo h2 (Ev.bind (shuttlecockref06_stack.ev _ l hl (by simp; omega)) ?_)
    rw [if_neg (show ¬ (l.length = 0 ∨ 100 < l.length) by omega)]
    by_cases h3 : l ∈ done
    · rw [decide_eq_true h3, show (fi (fun a => decide (a = l)) (done ++ l :: r) 0 != (done.length : Int)) = true from bne_iff_ne.2 (fun e => (fi_self done l r).1 e h3)]
      rw [Bool.not_true, Bool.and_false]
      exact out
    · rw [decide_eq_false h3, show (fi (fun a => decide (a = l)) (done ++ l :: r) 0 != (done.length : Int)) = false from bne_eq_false_iff_eq.2 ((fi_self done l r).2 h3)]
      rw [Bool.not_false, Bool.and_true]
      refine Ev.step (fun k => shuttlecockref06_May.j3.eq_2 ..) (evNo (by simp) ?_)
      have ih := shuttlecockref06_May.l1_ev d r (done ++ [l]) (by rw [← mid_snoc]; exact hl) (by rw [len1]; omega)
      refine shuttlecockref06_May.l2_ev d (done ++ l :: r) (done.length : Int) _ ?_ l [] (by show 0 + _ < _; omega)
      rw [w_snoc done l (by omega), mid_snoc done l r]
      exact ih
theorem shuttlecockref06_May.l0_ev (m : List (List T2)) (hm : ∀ l ∈ m, l.length < 4611686018427387904) (hml : m.length ≤ 10000) : ∀ (rest pre : List ByteArray), pre.length + rest.length ≤ 10000 → Ev (fun k => shuttlecockref06_May.l0 k (pre.length : Int) (pre ++ rest) m) (sAll pre rest && kAll ((pre ++ rest).length : Int) [] m)
  | [], pre, _ => by
    refine Ev.step (fun k => shuttlecockref06_May.l0.eq_2 ..) (evNo (nlt_end pre) ?_)
    exact shuttlecockref06_May.l1_ev (pre ++ []) m [] hm (by show 0 + _ ≤ _; omega)
  | s :: r, pre, hs => by
    simp only [List.length_cons] at hs
    refine Ev.step (fun k => shuttlecockref06_May.l0.eq_2 ..) (evYes (lt_mid pre s r) (evYes (by omega) ?_))
    rw [rdOf_mid]
    unfold sAll
    by_cases h1 : (s.size : Int) < 1
    · rw [decide_eq_false (show ¬ 1 ≤ s.size by omega)]
      exact evYes h1 (Ev.now _)
    rw [decide_eq_true (show 1 ≤ s.size by omega)]
    refine evNo h1 ?_
    by_cases h2 : (s.size : Int) > 1000
    · rw [decide_eq_false (show ¬ s.size ≤ 1000 by omega)]
      exact evYes h2 (Ev.now _)
    rw [decide_eq_true (show s.size ≤ 1000 by omega)]
    refine evNo h2 (Ev.bind (shuttlecockref06_find.ev _ s (by simp; omega)) ?_)
    by_cases h3 : s ∈ pre
    · rw [decide_eq_true h3]
      exact evNo (fun e => (fi_self pre s r).1 e h3) (Ev.now _)
    · rw [decide_eq_false h3]
      refine evYes ((fi_self pre s r).2 h3) ?_
      have ih := shuttlecockref06_May.l0_ev m hm hml r (pre ++ [s]) (by rw [len1]; omega)
      rw [w_snoc pre s (by omega), mid_snoc pre s r]
      exact ih
theorem shuttlecockref06_May.ev (d : List ByteArray) (m : List (List T2)) (hm : ∀ l ∈ m, l.length < 4611686018427387904) : Ev (fun k => shuttlecockref06_May.f k d m) (mayC d m) := by
  unfold mayC
  have out : Ev (fun k => shuttlecockref06_May.j0 k true d m) false := Ev.step (fun k => shuttlecockref06_May.j0.eq_2 ..) (evYes rfl (Ev.now _))
  by_cases h1 : (d.length : Int) > 10000
  · rw [decide_eq_false (show ¬ d.length ≤ 10000 by omega)]
    exact evYes h1 out
  refine evNo h1 ?_
  rw [decide_eq_true (show d.length ≤ 10000 by omega)]
  by_cases h2 : (m.length : Int) > 10000
  · rw [decide_eq_false (show ¬ m.length ≤ 10000 by omega), decide_eq_true h2]
    exact out
  rw [decide_eq_true (show m.length ≤ 10000 by omega), decide_eq_false h2]
  refine Ev.step (fun k => shuttlecockref06_May.j0.eq_2 ..) (evNo (by simp) ?_)
  exact shuttlecockref06_May.l0_ev m hm (by omega) d [] (by show 0 + _ ≤ _; omega)
/-! #### the same, small, few -/
theorem shuttlecockref06_Same.l1_ev (d : List ByteArray) (m : List (List T2)) (hm : ∀ l ∈ m, l.length < 4611686018427387904) : ∀ (rest pre : List (List T2)), pre ++ rest = m → m.length < 4611686018427387904 → Ev (fun k => shuttlecockref06_Same.l1 k (pre.length : Int) d m d m) true
  | [], pre, e, _ => by
    subst e
    exact Ev.step (fun k => shuttlecockref06_Same.l1.eq_2 ..) (evNo (nlt_end pre) (Ev.now _))
  | a :: r, pre, e, hs => by
    have hl : pre.length < m.length := by rw [← e]; simp
    refine Ev.step (fun k => shuttlecockref06_Same.l1.eq_2 ..) (evYes (by omega) (evYes (by omega) (evYes (by omega) ?_)))
    have ea : rd_L2 m (pre.length : Int) = a := by rw [← e]; exact rdL_mid pre a r
    rw [ea]
    have hs2 := shuttlecockref06_SameStack.ev a a (hm a (by rw [← e]; simp))
    rw [decide_eq_true rfl] at hs2
    refine Ev.bind hs2 (evYes rfl ?_)
    rw [w_snoc pre a (by omega)]
    exact shuttlecockref06_Same.l1_ev d m hm r (pre ++ [a]) (by rw [← mid_snoc]; exact e) hs
theorem shuttlecockref06_Same.l0_ev (d : List ByteArray) (m : List (List T2)) (hm : ∀ l ∈ m, l.length < 4611686018427387904) (hml : m.length < 4611686018427387904) : ∀ (rest pre : List ByteArray), pre ++ rest = d → d.length < 4611686018427387904 → Ev (fun k => shuttlecockref06_Same.l0 k (pre.length : Int) d m d m) true
  | [], pre, e, _ => by
    subst e
    exact Ev.step (fun k => shuttlecockref06_Same.l0.eq_2 ..) (evNo (nlt_end pre) (shuttlecockref06_Same.l1_ev _ m hm m [] rfl hml))
  | a :: r, pre, e, hs => by
    have hl : pre.length < d.length := by rw [← e]; simp
    refine Ev.step (fun k => shuttlecockref06_Same.l0.eq_2 ..) (evYes (by omega) (evYes (by omega) (evYes (by omega) (evYes rfl ?_))))
    rw [w_snoc pre a (by omega)]
    exact shuttlecockref06_Same.l0_ev d m hm hml r (pre ++ [a]) (by rw [← mid_snoc]; exact e) hs
theorem shuttlecockref06_Same.ev (d : List ByteArray) (m : List (List T2)) (hm : ∀ l ∈ m, l.length < 4611686018427387904) (hml : m.length < 4611686018427387904) (hd : d.length < 4611686018427387904) : Ev (fun k => shuttlecockref06_Same.f k d m d m) true := by
  refine evYes rfl ?_
  rw [show ((m.length : Int) != (m.length : Int)) = false by simp]
  exact Ev.step (fun k => shuttlecockref06_Same.j0.eq_2 ..) (evNo (by simp) (shuttlecockref06_Same.l0_ev d m hm hml d [] rfl hd))
/-- few strings and stacks, short ones -/
def SmallP (d : List ByteArray) (m : List (List T2)) : Prop := (∀ l ∈ m, l.length ≤ 30) ∧ d.length ≤ 60 ∧ m.length ≤ 60
theorem shuttlecockref06_Small.l1_ev (d : List ByteArray) : ∀ (rest pre : List (List T2)), (pre ++ rest).length < 4611686018427387904 → (∀ l ∈ pre, l.length ≤ 30) → ∃ b, Ev (fun k => shuttlecockref06_Small.l1 k (pre.length : Int) d (pre ++ rest)) b ∧ (b = true → SmallP d (pre ++ rest))
  | [], pre, _, hp => by
    by_cases h1 : (d.length : Int) ≤ 60
    · refine ⟨_, Ev.step (fun k => shuttlecockref06_Small.l1.eq_2 ..) (evNo (nlt_end pre) (evYes h1 (Ev.now _))), fun h => ?_⟩
      have := of_decide_eq_true h
      rw [List.append_nil] at *
      exact ⟨hp, by omega, by omega⟩
    · exact ⟨_, Ev.step (fun k => shuttlecockref06_Small.l1.eq_2 ..) (evNo (nlt_end pre) (evNo h1 (Ev.now _))), fun h => absurd h (by simp)⟩
  | a :: r, pre, hs, hp => by
    by_cases h1 : (a.length : Int) > 30
    · refine ⟨false, Ev.step (fun k => shuttlecockref06_Small.l1.eq_2 ..) (evYes (lt_mid pre a r) (evYes (by omega) ?_)), fun h => absurd h (by simp)⟩
      rw [rdL_mid]
      exact evYes h1 (Ev.now _)
    · obtain ⟨b, hb, hq⟩ := shuttlecockref06_Small.l1_ev d r (pre ++ [a]) (by rw [← mid_snoc]; exact hs) (fun l hl => by rcases List.mem_append.1 hl with h | h; (· exact hp l h); (· rw [List.mem_singleton.1 h]; omega))
      rw [← mid_snoc] at hb hq
      refine ⟨b, Ev.step (fun k => shuttlecockref06_Small.l1.eq_2 ..) (evYes (lt_mid pre a r) (evYes (by omega) ?_)), hq⟩
      rw [rdL_mid]
      refine evNo h1 ?_
      rw [w_snoc pre a (by simp at hs; omega)]
      exact hb
theorem shuttlecockref06_Small.l0_ev (m : List (List T2)) (hm : m.length < 4611686018427387904) : ∀ (rest pre : List ByteArray), (pre ++ rest).length < 4611686018427387904 → ∃ b, Ev (fun k => shuttlecockref06_Small.l0 k (pre.length : Int) (pre ++ rest) m) b ∧ (b = true → SmallP (pre ++ rest) m)
  | [], pre, _ => by
    obtain ⟨b, hb, hq⟩ := shuttlecockref06_Small.l1_ev (pre ++ []) m [] hm (by simp)
    exact ⟨b, Ev.step (fun k => shuttlecockref06_Small.l0.eq_2 ..) (evNo (nlt_end pre) hb), hq⟩
  | a :: r, pre, hs => by
    by_cases h1 : (a.size : Int) > 1100
    · refine ⟨false, Ev.step (fun k => shuttlecockref06_Small.l0.eq_2 ..) (evYes (lt_mid pre a r) (evYes (by omega) ?_)), fun h => absurd h (by simp)⟩
      rw [rdOf_mid]
      exact evYes h1 (Ev.now _)
    · obtain ⟨b, hb, hq⟩ := shuttlecockref06_Small.l0_ev m hm r (pre ++ [a]) (by rw [← mid_snoc]; exact hs)
      rw [← mid_snoc] at hb hq
      refine ⟨b, Ev.step (fun k => shuttlecockref06_Small.l0.eq_2 ..) (evYes (lt_mid pre a r) (evYes (by omega) ?_)), hq⟩
      rw [rdOf_mid]
      refine evNo h1 ?_
      rw [w_snoc pre a (by simp at hs; omega)]
      exact hb
theorem shuttlecockref06_Small.ev (d : List ByteArray) (m : List (List T2)) (hd : d.length < 4611686018427387904) (hm : m.length < 4611686018427387904) : ∃ b, Ev (fun k => shuttlecockref06_Small.f k d m) b ∧ (b = true → SmallP d m) := shuttlecockref06_Small.l0_ev m hm d [] hd
theorem shuttlecockref06_Few.l0_ev : ∀ (rest pre : List T4), (pre ++ rest).length < 4611686018427387904 → ∃ b, Ev (fun k => shuttlecockref06_Few.l0 k (pre ++ rest) (pre.length : Int)) b ∧ (b = true → (pre ++ rest).length ≤ 30)
  | [], pre, _ => ⟨_, Ev.step (fun k => shuttlecockref06_Few.l0.eq_2 ..) (evNo (nlt_end pre) (Ev.now _)), fun h => by have := of_decide_eq_true h; omega⟩
  | a :: r, pre, hs => by
    by_cases h1 : (a.f0.size : Int) > 1100
    · refine ⟨false, Ev.step (fun k => shuttlecockref06_Few.l0.eq_2 ..) (evYes (lt_mid pre a r) (evYes (by omega) ?_)), fun h => absurd h (by simp)⟩
      rw [rd4_mid]
      exact evYes h1 (Ev.now _)
    · obtain ⟨b, hb, hq⟩ := shuttlecockref06_Few.l0_ev r (pre ++ [a]) (by rw [← mid_snoc]; exact hs)
      rw [← mid_snoc] at hb hq
      refine ⟨b, Ev.step (fun k => shuttlecockref06_Few.l0.eq_2 ..) (evYes (lt_mid pre a r) (evYes (by omega) ?_)), hq⟩
      rw [rd4_mid]
      refine evNo h1 ?_
      rw [w_snoc pre a (by simp at hs; omega)]
      exact hb
theorem shuttlecockref06_Few.ev (fs : List T4) (h : fs.length < 4611686018427387904) : ∃ b, Ev (fun k => shuttlecockref06_Few.f k fs) b ∧ (b = true → fs.length ≤ 30) := shuttlecockref06_Few.l0_ev fs [] h
end Go.Proofs.Ytijjfomnidckdaa.Q

/- Names of strings and of stacks in tables that may be: plain lists. -/
namespace Go.Proofs.Ytijjfomnidckdaa.Q
open Go Go.RowKit Go.Proofs.YtijjfomnidckdaaW.PrintWords Go.Proofs.YtijjfomnidckdaaW.PrintLast Go.Proofs.YtijjfomnidckdaaW.PrintMore ShCore
theorem size0 {s : ByteArray} (h : s.size = 0) : s = (⟨#[]⟩ : ByteArray) := lst_inj (by have e := lst_length s; rw [h] at e; rw [List.length_eq_zero_iff.1 e])
theorem pre_get {α : Type} {l l' : List α} (h : l <+: l') {j : Nat} {a : α} (ha : l[j]? = some a) : l'[j]? = some a := by
  obtain ⟨t, rfl⟩ := h
  obtain ⟨hj, _⟩ := List.getElem?_eq_some_iff.1 ha
  rw [List.getElem?_append_left hj]
  exact ha
theorem get_lt {α : Type} {l : List α} {j : Nat} {a : α} (ha : l[j]? = some a) : j < l.length := (List.getElem?_eq_some_iff.1 ha).1
theorem get_mem {α : Type} {l : List α} {j : Nat} {a : α} (ha : l[j]? = some a) : a ∈ l := List.mem_of_getElem? ha
theorem nodup_get {α : Type} {l : List α} (h : l.Nodup) {i j : Nat} {a : α} (hi : l[i]? = some a) (hj : l[j]? = some a) : i = j := by
  exact (List.getElem?_inj (get_lt hi) h).1 (hi.trans hj.symm)
theorem fi_at {α : Type} [DecidableEq α] {l : List α} (h : l.Nodup) {j : Nat} {a : α} (ha : l[j]? = some a) : fi (fun b => decide (b = a)) l 0 = (j : Int) := by
  rcases fi_spec (fun b => decide (b = a)) l 0 with ⟨_, hn⟩ | ⟨i, hi, e, hp, _⟩
  · have := hn a (get_mem ha)
    simp at this
  · rw [e, Nat.zero_add, nodup_get h ha (by rw [List.getElem?_eq_getElem hi, of_decide_eq_true hp])]
theorem fi_out {α : Type} [DecidableEq α] {l : List α} {a : α} (ha : a ∉ l) : fi (fun b => decide (b = a)) l 0 = -1 := fi_none _ _ _ (fun _ hb => decide_eq_false (fun e => ha (e ▸ hb)))
/-- This number names this text. -/
def Names (d : List ByteArray) (n : Int) (s : ByteArray) : Prop := (n = 0 ∧ s.size = 0) ∨ ∃ j : Nat, n = (j : Int) + 1 ∧ d[j]? = some s
theorem Names.mono {d d' : List ByteArray} {n : Int} {s : ByteArray} (h : Names d n s) (hd : d <+: d') : Names d' n s := by
  rcases h with h | ⟨j, e, hj⟩
  · exact .inl h
  · exact .inr ⟨j, e, pre_get hd hj⟩
theorem Names.inj {d : List ByteArray} {n : Int} {s t : ByteArray} (h : Names d n s) (k : Names d n t) : s = t := by
  rcases h with ⟨h1, h2⟩ | ⟨j, e, hj⟩
  · rcases k with ⟨_, k2⟩ | ⟨i, e2, hi⟩
    · rw [size0 h2, size0 k2]
    · omega
  · rcases k with ⟨k1, _⟩ | ⟨i, e2, hi⟩
    · omega
    · obtain rfl : i = j := by omega
      exact Option.some.inj (hj.symm.trans hi)
/-- Texts that are told apart, none of them empty. -/
def Fair (d : List ByteArray) : Prop := d.Nodup ∧ ∀ s ∈ d, 1 ≤ s.size
theorem Names.fn {d : List ByteArray} (hf : Fair d) {n m : Int} {s : ByteArray} (h : Names d n s) (k : Names d m s) : n = m := by
  rcases h with ⟨h1, h2⟩ | ⟨j, e, hj⟩
  · rcases k with ⟨k1, _⟩ | ⟨i, e2, hi⟩
    · rw [h1, k1]
    · have := hf.2 s (get_mem hi)
      omega
  · rcases k with ⟨_, k2⟩ | ⟨i, e2, hi⟩
    · have := hf.2 s (get_mem hj)
      omega
    · rw [e, e2, nodup_get hf.1 hj hi]
theorem strB_of {d : List ByteArray} (hf : Fair d) {n : Int} {s : ByteArray} (h : Names d n s) : strB d s = (d, n) := by
  unfold strB
  rcases h with ⟨rfl, h2⟩ | ⟨j, rfl, hj⟩
  · rw [if_pos h2]
  · have := hf.2 s (get_mem hj)
    rw [if_neg (by omega), fi_at hf.1 hj, if_pos (by omega)]
theorem strB_new {d : List ByteArray} {s : ByteArray} (h0 : s.size ≠ 0) (h : s ∉ d) : strB d s = (d ++ [s], (d.length : Int) + 1) := by
  unfold strB
  rw [if_neg h0, fi_out h, if_neg (by omega)]
theorem strB_cases (d : List ByteArray) (hf : Fair d) (s : ByteArray) : (strB d s).1 = d ∧ Names d (strB d s).2 s ∨ (1 ≤ s.size ∧ s ∉ d) ∧ (strB d s).1 = d ++ [s] ∧ (strB d s).2 = (d.length : Int) + 1 := by
  by_cases h0 : s.size = 0
  · have h : Names d 0 s := .inl ⟨rfl, h0⟩
    rw [strB_of hf h]
    exact .inl ⟨rfl, h⟩
  · by_cases h : s ∈ d
    · obtain ⟨j, hj⟩ := List.mem_iff_getElem?.1 h
      have h : Names d ((j : Int) + 1) s := .inr ⟨j, rfl, hj⟩
      rw [strB_of hf h]
      exact .inl ⟨rfl, h⟩
    · rw [strB_new h0 h]
      exact .inr ⟨⟨by omega, h⟩, rfl, rfl⟩
theorem strB_pre (d : List ByteArray) (hf : Fair d) (s : ByteArray) : d <+: (strB d s).1 := by
  rcases strB_cases d hf s with ⟨e, _⟩ | ⟨_, e, _⟩
  · rw [e]; exact List.prefix_rfl
  · rw [e]; exact List.prefix_append _ _
theorem strB_names (d : List ByteArray) (hf : Fair d) (s : ByteArray) : Names (strB d s).1 (strB d s).2 s := by
  rcases strB_cases d hf s with ⟨e, h⟩ | ⟨_, e, e2⟩
  · rw [e]; exact h
  · rw [e, e2]
    exact .inr ⟨d.length, rfl, by simp⟩
theorem strB_fair (d : List ByteArray) (hf : Fair d) (s : ByteArray) : Fair (strB d s).1 := by
  rcases strB_cases d hf s with ⟨e, _⟩ | ⟨⟨h1, h2⟩, e, _⟩
  · rw [e]; exact hf
  · rw [e]
    refine ⟨?_, fun t ht => ?_⟩
    · rw [List.nodup_append]
      exact ⟨hf.1, by simp, fun a ha b hb => by rw [List.mem_singleton.1 hb]; rintro rfl; exact h2 ha⟩
    · rcases List.mem_append.1 ht with h | h
      · exact hf.2 t h
      · rw [List.mem_singleton.1 h]; exact h1
/-- These numbers tell of these frames. -/
def TellF (d : List ByteArray) : List T2 → List T4 → Prop
  | [], [] => True
  | x :: st, f :: fs => (Names d x.f0 f.f0 ∧ x.f1 = f.f1) ∧ TellF d st fs
  | _, _ => False
theorem TellF.mono {d d' : List ByteArray} (hd : d <+: d') : ∀ (st : List T2) (fs : List T4), TellF d st fs → TellF d' st fs
  | [], [], _ => trivial
  | _ :: st, _ :: fs, h => ⟨⟨h.1.1.mono hd, h.1.2⟩, TellF.mono hd st fs h.2⟩
theorem TellF.inj {d : List ByteArray} : ∀ (st : List T2) (fs gs : List T4), TellF d st fs → TellF d st gs → fs = gs
  | [], [], [], _, _ => rfl
  | _ :: st, f :: fs, g :: gs, h, k => by
    rw [TellF.inj st fs gs h.2 k.2, T4_ext (h.1.1.inj k.1.1) (h.1.2.symm.trans k.1.2)]
theorem TellF.fn {d : List ByteArray} (hf : Fair d) : ∀ (st tt : List T2) (fs : List T4), TellF d st fs → TellF d tt fs → st = tt
  | [], [], _, _, _ => rfl
  | [], _ :: _, [], _, k => (k : False).elim
  | [], _ :: _, _ :: _, h, _ => (h : False).elim
  | _ :: _, [], [], h, _ => (h : False).elim
  | _ :: _, [], _ :: _, _, k => (k : False).elim
  | x :: st, y :: tt, _ :: fs, h, k => by
    rw [TellF.fn hf st tt fs h.2 k.2, T2_ext (h.1.1.fn hf k.1.1) (h.1.2.trans k.1.2.symm)]
theorem TellF.len {d : List ByteArray} : ∀ (st : List T2) (fs : List T4), TellF d st fs → st.length = fs.length
  | [], [], _ => rfl
  | _ :: st, _ :: fs, h => by simp [TellF.len st fs h.2]
theorem stB_pre : ∀ (fs : List T4) (d : List ByteArray), Fair d → d <+: (stB fs d).1 ∧ Fair (stB fs d).1 ∧ TellF (stB fs d).1 (stB fs d).2 fs
  | [], d, hf => ⟨List.prefix_rfl, hf, trivial⟩
  | f :: fs, d, hf => by
    obtain ⟨h1, h2, h3⟩ := stB_pre fs (strB d f.f0).1 (strB_fair d hf f.f0)
    exact ⟨(strB_pre d hf f.f0).trans h1, h2, ⟨(strB_names d hf f.f0).mono h1, rfl⟩, h3⟩
theorem stB_of {d : List ByteArray} (hf : Fair d) : ∀ (st : List T2) (fs : List T4), TellF d st fs → stB fs d = (d, st)
  | [], [], _ => rfl
  | x :: st, f :: fs, h => by
    unfold stB
    rw [strB_of hf h.1.1, stB_of hf st fs h.2, T2_ext (a := (⟨x.f0, f.f1⟩ : T2)) (b := x) rfl h.1.2.symm]
theorem stB_new : ∀ (fs : List T4) (d : List ByteArray), Fair d → ∀ s ∈ (stB fs d).1, s ∈ d ∨ ∃ f ∈ fs, f.f0 = s
  | [], d, _, s, h => .inl h
  | f :: fs, d, hf, s, h => by
    rcases stB_new fs (strB d f.f0).1 (strB_fair d hf f.f0) s h with h1 | ⟨g, hg, e⟩
    · rcases strB_cases d hf f.f0 with ⟨e, _⟩ | ⟨_, e, _⟩
      · rw [e] at h1; exact .inl h1
      · rw [e] at h1
        rcases List.mem_append.1 h1 with h2 | h2
        · exact .inl h2
        · exact .inr ⟨f, by simp, (List.mem_singleton.1 h2).symm⟩
    · exact .inr ⟨g, by simp [hg], e⟩
theorem told_frm {d : List ByteArray} : ∀ (st : List T2) (fs : List T4), TellF d st fs → (∀ x ∈ st, 1 ≤ x.f0) → st.map (frm d) = fs
  | [], [], _, _ => rfl
  | x :: st, f :: fs, h, hp => by
    rw [List.map_cons, told_frm st fs h.2 (fun y hy => hp y (by simp [hy]))]
    have h1 := hp x (by simp)
    rcases h.1.1 with ⟨e, _⟩ | ⟨j, e, hj⟩
    · omega
    · have e2 : frm d x = f := T4_ext (by
        show d.getD (x.f0 - 1).toNat ByteArray.empty = f.f0
        rw [show (x.f0 - 1).toNat = j by omega, List.getD_eq_getElem?_getD, hj]
        rfl) h.1.2
      rw [e2]
theorem stkN_cases (m : List (List T2)) (hm : m.Nodup) (st : List T2) : ∃ j : Nat, (stkN m st).2 = (j : Int) + 1 ∧ (stkN m st).1[j]? = some st ∧ m <+: (stkN m st).1 ∧ ((stkN m st).1 = m ∨ st ∉ m ∧ (stkN m st).1 = m ++ [st]) := by
  unfold stkN
  by_cases h : st ∈ m
  · obtain ⟨j, hj⟩ := List.mem_iff_getElem?.1 h
    rw [fi_at hm hj, if_neg (by omega)]
    exact ⟨j, rfl, hj, List.prefix_rfl, .inl rfl⟩
  · rw [fi_out h, if_pos (by omega)]
    exact ⟨m.length, rfl, by simp, List.prefix_append _ _, .inr ⟨h, rfl⟩⟩
theorem stkN_of {m : List (List T2)} (hm : m.Nodup) {st : List T2} {j : Nat} (hj : m[j]? = some st) : stkN m st = (m, (j : Int) + 1) := by
  unfold stkN
  rw [fi_at hm hj, if_neg (by omega)]
/-! #### tables that may be -/
theorem MayP.fair {d : List ByteArray} {m : List (List T2)} (h : MayP d m) : Fair d := ⟨h.2.2.2.1, fun s hs => (h.2.2.1 s hs).1⟩
theorem frames_mono {l : List T2} {n n' : Int} (h : framesB l n = true) (hn : n ≤ n') : framesB l n' = true := by
  rw [framesB_iff] at h ⊢
  exact ⟨h.1, fun x hx => by have := h.2 x hx; omega⟩
theorem MayP.more {d d' : List ByteArray} {m : List (List T2)} (h : MayP d m) (hd : d <+: d') (hf : Fair d') (hs : ∀ s ∈ d', s.size ≤ 1000) (hl : d'.length ≤ 10000) : MayP d' m := by
  have := hd.length_le
  exact ⟨hl, h.2.1, fun s h1 => ⟨hf.2 s h1, hs s h1⟩, hf.1, fun l h1 => frames_mono (h.2.2.2.2.1 l h1) (by omega), h.2.2.2.2.2⟩
theorem endT_yes {d : List ByteArray} {m : List (List T2)} (n : Int) (h : MayP d m) : endT d m n = (d, m, n) := if_pos ((mayC_iff d m).2 h)
theorem endT_no {d : List ByteArray} {m : List (List T2)} (n : Int) (h : ¬ MayP d m) : endT d m n = nil3 := if_neg (fun e => h ((mayC_iff d m).1 e))
theorem StrT_eq {d : List ByteArray} {m : List (List T2)} (h : MayP d m) (s : ByteArray) : StrT d m s = endT (strB d s).1 m (strB d s).2 := if_pos ((mayC_iff d m).2 h)
theorem StrT_again {d : List ByteArray} {m : List (List T2)} (h : MayP d m) {n : Int} {s : ByteArray} (hn : Names d n s) : StrT d m s = (d, m, n) := by
  rw [StrT_eq h, strB_of h.fair hn]
  exact endT_yes n h
theorem StrT_ok {d : List ByteArray} {m : List (List T2)} (h : MayP d m) (s : ByteArray) (hs : s.size ≤ 1000) (hl : d.length < 10000) : ∃ (d' : List ByteArray) (n : Int), StrT d m s = (d', m, n) ∧ MayP d' m ∧ d <+: d' ∧ Names d' n s ∧ d'.length ≤ d.length + 1 := by
  have hp := strB_pre d h.fair s
  have hm : MayP (strB d s).1 m := by
    refine h.more hp (strB_fair d h.fair s) (fun t ht => ?_) (by have := strB_len d s; omega)
    rcases strB_cases d h.fair s with ⟨e, _⟩ | ⟨_, e, _⟩
    · rw [e] at ht; exact (h.2.2.1 t ht).2
    · rw [e] at ht
      rcases List.mem_append.1 ht with h1 | h1
      · exact (h.2.2.1 t h1).2
      · rw [List.mem_singleton.1 h1]; exact hs
  exact ⟨_, _, by rw [StrT_eq h]; exact endT_yes _ hm, hm, hp, strB_names d h.fair s, (strB_len d s).2⟩
theorem StkT_nil {d : List ByteArray} {m : List (List T2)} (h : MayP d m) : StkT d m [] = (d, m, 0) := by
  unfold StkT
  rw [if_pos ((mayC_iff d m).2 h), if_pos (show ([] : List T4).length = 0 from rfl)]
theorem StkT_eq {d : List ByteArray} {m : List (List T2)} (h : MayP d m) {fs : List T4} (hf : fs.length ≠ 0) : StkT d m fs = endT (stB fs d).1 (stkN m (stB fs d).2).1 (stkN m (stB fs d).2).2 := by
  unfold StkT
  rw [if_pos ((mayC_iff d m).2 h), if_neg hf]
theorem StkT_cases {d : List ByteArray} {m : List (List T2)} (h : MayP d m) (fs : List T4) : (fs.length = 0 ∧ StkT d m fs = (d, m, 0)) ∨ StkT d m fs = nil3 ∨ ∃ (d' : List ByteArray) (m' : List (List T2)) (st : List T2) (j : Nat), fs.length ≠ 0 ∧ StkT d m fs = (d', m', (j : Int) + 1) ∧ MayP d' m' ∧ d <+: d' ∧ m <+: m' ∧ m'[j]? = some st ∧ TellF d' st fs ∧ d'.length ≤ d.length + fs.length := by
  by_cases h0 : fs.length = 0
  · left
    have e := List.length_eq_zero_iff.1 h0
    subst e
    exact ⟨rfl, StkT_nil h⟩
  right
  rw [StkT_eq h h0]
  obtain ⟨h1, h2, h3⟩ := stB_pre fs d h.fair
  obtain ⟨j, e, hj, hp, _⟩ := stkN_cases m h.2.2.2.2.2 (stB fs d).2
  by_cases hm : MayP (stB fs d).1 (stkN m (stB fs d).2).1
  · right
    rw [endT_yes _ hm, e]
    exact ⟨_, _, _, j, h0, rfl, hm, h1, hp, hj, h3, (stB_len fs d).2.2⟩
  · left
    exact endT_no _ hm
theorem StkT_again {d : List ByteArray} {m : List (List T2)} (h : MayP d m) {fs : List T4} (h0 : fs.length ≠ 0) {st : List T2} {j : Nat} (hj : m[j]? = some st) (ht : TellF d st fs) : StkT d m fs = (d, m, (j : Int) + 1) := by
  rw [StkT_eq h h0, stB_of h.fair st fs ht, stkN_of h.2.2.2.2.2 hj]
  exact endT_yes _ h
theorem may_not {d : List ByteArray} {m : List (List T2)} (h : MayP d m) : ¬ mayC d m = false := by
  rw [(mayC_iff d m).2 h]
  simp
theorem NameT_eq {d : List ByteArray} {m : List (List T2)} (h : MayP d m) {i : Int} (h0 : 0 ≤ i) (h1 : i ≤ (d.length : Int)) : NameT d m i = if i = 0 then ((⟨#[]⟩ : ByteArray), true) else (d.getD (i - 1).toNat ByteArray.empty, true) := if_neg (by rintro (h2 | h2 | h2); (· omega); (· omega); (· exact may_not h h2))
theorem FramesT_eq {d : List ByteArray} {m : List (List T2)} (h : MayP d m) {i : Int} (h0 : 0 ≤ i) (h1 : i ≤ (m.length : Int)) : FramesT d m i = if i = 0 then ([], true) else ((m.getD (i - 1).toNat []).map (frm d), true) := if_neg (by rintro (h2 | h2 | h2); (· omega); (· omega); (· exact may_not h h2))
theorem NameT_names {d : List ByteArray} {m : List (List T2)} (h : MayP d m) {n : Int} {s : ByteArray} (hn : Names d n s) : NameT d m n = (s, true) := by
  rcases hn with ⟨rfl, h2⟩ | ⟨j, rfl, hj⟩
  · rw [NameT_eq h (by omega) (by omega), if_pos rfl, size0 h2]
  · have := get_lt hj
    rw [NameT_eq h (by omega) (by omega), if_neg (by omega), show ((j : Int) + 1 - 1).toNat = j by omega, List.getD_eq_getElem?_getD, hj]
    rfl
theorem FramesT_told {d : List ByteArray} {m : List (List T2)} (h : MayP d m) {st : List T2} {fs : List T4} {j : Nat} (hj : m[j]? = some st) (ht : TellF d st fs) : FramesT d m ((j : Int) + 1) = (fs, true) := by
  have := get_lt hj
  have hg := h.2.2.2.2.1 st (get_mem hj)
  rw [FramesT_eq h (by omega) (by omega), if_neg (by omega), show ((j : Int) + 1 - 1).toNat = j by omega, List.getD_eq_getElem?_getD, hj, Option.getD_some, told_frm st fs ht (fun x hx => (((framesB_iff st _).1 hg).2 x hx).1.1)]
theorem getD_pre {α : Type} (z : α) {l l' : List α} (h : l <+: l') {j : Nat} (hj : j < l.length) : l'.getD j z = l.getD j z := by
  rw [List.getD_eq_getElem?_getD, List.getD_eq_getElem?_getD, pre_get h (List.getElem?_eq_getElem hj), List.getElem?_eq_getElem hj]
theorem NameT_pre {d d' : List ByteArray} {m m' : List (List T2)} (h : MayP d m) (h' : MayP d' m') (hd : d <+: d') {i : Int} (h0 : 0 ≤ i) (h1 : i ≤ (d.length : Int)) : NameT d' m' i = NameT d m i := by
  have := hd.length_le
  rw [NameT_eq h h0 h1, NameT_eq h' h0 (by omega)]
  by_cases h2 : i = 0
  · rw [if_pos h2, if_pos h2]
  · rw [if_neg h2, if_neg h2, getD_pre _ hd (by omega)]
theorem FramesT_pre {d d' : List ByteArray} {m m' : List (List T2)} (h : MayP d m) (h' : MayP d' m') (hd : d <+: d') (hm : m <+: m') {i : Int} (h0 : 0 ≤ i) (h1 : i ≤ (m.length : Int)) : FramesT d' m' i = FramesT d m i := by
  have := hm.length_le
  rw [FramesT_eq h h0 h1, FramesT_eq h' h0 (by omega)]
  by_cases h2 : i = 0
  · rw [if_pos h2, if_pos h2]
  · rw [if_neg h2, if_neg h2, getD_pre _ hm (by omega)]
    congr 1
    refine List.map_congr_left (fun x hx => ?_)
    have hmem : m.getD (i - 1).toNat [] ∈ m := by
      rw [List.getD_eq_getElem?_getD, List.getElem?_eq_getElem (show (i - 1).toNat < m.length by omega), Option.getD_some]
      exact List.getElem_mem _
    have hg := ((framesB_iff _ _).1 (h.2.2.2.2.1 _ hmem)).2 x hx
    unfold frm
    rw [getD_pre _ hd (by omega)]
theorem FramesT_len {d : List ByteArray} {m : List (List T2)} (h : MayP d m) (i : Int) : (FramesT d m i).1.length ≤ 100 := by
  unfold FramesT
  split
  · simp
  · split
    · simp
    · simp only [List.length_map]
      by_cases hl : (i - 1).toNat < m.length
      · rw [List.getD_eq_getElem?_getD, List.getElem?_eq_getElem hl, Option.getD_some]
        exact ((framesB_iff _ _).1 (h.2.2.2.2.1 _ (List.getElem_mem hl))).1.2
      · rw [List.getD_eq_getElem?_getD, List.getElem?_eq_none (by omega)]
        simp
end Go.Proofs.Ytijjfomnidckdaa.Q

/- What is fixed. -/
namespace Go.Proofs.Ytijjfomnidckdaa.Q
open Go Go.RowKit Go.Proofs.YtijjfomnidckdaaW.PrintWords Go.Proofs.YtijjfomnidckdaaW.PrintLast Go.Proofs.YtijjfomnidckdaaW.PrintMore ShCore
theorem ev_fixed : Ev (fun k => shuttlecocklaw06_fixed.f k) true := Ev.of shuttlecocklaw06_fixed.mono (k := 30) (by decide +kernel)
end Go.Proofs.Ytijjfomnidckdaa.Q

/- The same, of tables that may be. -/
namespace Go.Proofs.Ytijjfomnidckdaa.Q
open Go Go.RowKit Go.Proofs.YtijjfomnidckdaaW.PrintWords Go.Proofs.YtijjfomnidckdaaW.PrintLast Go.Proofs.YtijjfomnidckdaaW.PrintMore ShCore
theorem big_of {m : List (List T2)} (h : ∀ l ∈ m, l.length ≤ 140737488351232) : ∀ l ∈ m, l.length < 4611686018427387904 := fun l hl => by have := h l hl; omega
theorem may_big {d : List ByteArray} {m : List (List T2)} (h : MayP d m) : ∀ l ∈ m, l.length < 4611686018427387904 := fun l hl => by
  have := ((framesB_iff l _).1 (h.2.2.2.2.1 l hl)).1
  omega
theorem same_ev {d : List ByteArray} {m : List (List T2)} (h : MayP d m) : Ev (fun k => shuttlecockref06_Same.f k d m d m) true := shuttlecockref06_Same.ev d m (may_big h) (by have := h.2.1; omega) (by have := h.1; omega)
theorem same_nil : Ev (fun k => shuttlecockref06_Same.f k nil3.1 nil3.2.1 nil3.1 nil3.2.1) true := shuttlecockref06_Same.ev [] [] (by simp) (by simp) (by simp)
theorem endT_same (d : List ByteArray) (m : List (List T2)) (n : Int) : Ev (fun k => shuttlecockref06_Same.f k (endT d m n).1 (endT d m n).2.1 (endT d m n).1 (endT d m n).2.1) true := by
  by_cases h : MayP d m
  · rw [endT_yes n h]; exact same_ev h
  · rw [endT_no n h]; exact same_nil
theorem sameF_ev (fs : List T4) (h : fs.length ≤ 1000) : Ev (fun k => shuttlecockref06_SameFrames.f k fs fs) true := by
  have := shuttlecockref06_SameFrames.ev fs fs (by omega)
  rwa [decide_eq_true rfl] at this
end Go.Proofs.Ytijjfomnidckdaa.Q
