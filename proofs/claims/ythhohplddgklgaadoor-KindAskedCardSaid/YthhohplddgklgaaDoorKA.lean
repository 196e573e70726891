/- Names of kinds and what they spell: plain lists. -/
import Derived.Test.YthhohplddgklgaaDoorKind2
import Derived.Test.YthhohplddgklgaaDoorVint
namespace Go.Proofs.YthhohplddgklgaaDoor.Kind
open Go Go.RowKit
/-- Three digits. -/
def dig3 (k : Nat) : List UInt8 := [UInt8.ofNat (48 + k / 100), UInt8.ofNat (48 + k / 10 % 10), UInt8.ofNat (48 + k % 10)]
theorem dig_one (u : Nat) (h : u < 10) : Lib.decDigits u = [UInt8.ofNat (48 + u)] := by
  rw [Lib.decDigits, dif_pos h]
theorem dig_more (u : Nat) (h : ¬ u < 10) : Lib.decDigits u = Lib.decDigits (u / 10) ++ [UInt8.ofNat (48 + u % 10)] := by
  conv => lhs; rw [Lib.decDigits, dif_neg h]
theorem itoa3 (k : Nat) (h0 : 100 ≤ k) (h1 : k < 1000) : Lib.itoa k = dig3 k := by
  unfold Lib.itoa
  rw [if_neg (by omega), Int.toNat_natCast, dig_more k (by omega), dig_more (k / 10) (by omega), dig_one (k / 10 / 10) (by omega)]
  unfold dig3
  rw [Nat.div_div_eq_div_mul]
  rfl
def back (k : Nat) : Bool := match Lib.atoiAll (dig3 k) with
  | .ok v => decide (v = (k : Int))
  | _ => false
theorem back_all : (List.range 128).all (fun j => back (128 + j)) = true := by decide +kernel
theorem atoi3 (k : Nat) (h0 : 128 ≤ k) (h1 : k < 256) : Lib.atoiAll (dig3 k) = .ok (k : Int) := by
  have h := List.all_eq_true.1 back_all (k - 128) (List.mem_range.2 (by omega))
  rw [show 128 + (k - 128) = k by omega] at h
  unfold back at h
  rcases hA : Lib.atoiAll (dig3 k) with v | _ | _
  · rw [hA] at h; rw [of_decide_eq_true h]
  · rw [hA] at h; cases h
  · rw [hA] at h; cases h
theorem txt_data (l : List UInt8) : (txt l).data.toList = l := rfl
def expS : ByteArray := ⟨#[101, 120, 112]⟩
theorem exp_data (l : List UInt8) : (expS ++ txt l).data.toList = [101, 120, 112] ++ l := by
  show ((expS ++ txt l).data).toList = _
  rw [ByteArray.data_append]
  simp [expS, txt]
theorem known_exp {k : Int} (h : knownB k = true) : expB k = false := by
  have := of_decide_eq_true h
  unfold expB
  rw [decide_eq_false (by omega)]
  rfl
theorem exp_nat {k : Int} (h : expB k = true) : ∃ n : Nat, k = n ∧ 128 ≤ n ∧ n < 256 := by
  unfold expB at h
  rw [Bool.and_eq_true, decide_eq_true_eq, decide_eq_true_eq] at h
  exact ⟨k.toNat, by omega, by omega, by omega⟩
theorem nameF_exp {n : Nat} (h0 : 128 ≤ n) (h1 : n < 256) : nameF (n : Int) = expS ++ txt (dig3 n) := by
  unfold nameF
  rw [if_neg (by unfold knownB; rw [decide_eq_true_eq]; omega), if_pos (by unfold expB; simp; omega), itoa3 n (by omega) (by omega)]
  rfl
theorem nameF_none {k : Int} (h : knownB k = false) (h1 : expB k = false) : nameF k = (⟨#[]⟩ : ByteArray) := by
  unfold nameF
  rw [h, h1, if_neg Bool.false_ne_true, if_neg Bool.false_ne_true]
theorem fst_exp (n : Nat) (l : List UInt8) : ∀ (f : Nat) (i : Int), 1 ≤ i → i + f ≤ 11 → fstK (expS ++ txt l) f i = none
  | 0, _, _, _ => rfl
  | f + 1, i, h0, h1 => by
    have hk : ∀ j : Nat, j < 10 → (nameF ((j : Int) + 1)).data.toList.take 3 ≠ [101, 120, 112] := by
      intro j hj
      have := List.all_eq_true.1 (show (List.range 10).all (fun j => decide ((nameF ((j : Int) + 1)).data.toList.take 3 ≠ [101, 120, 112])) = true by decide +kernel) j (List.mem_range.2 hj)
      exact of_decide_eq_true this
    unfold fstK
    rw [if_neg (fun e => ?_), fst_exp n l f (i + 1) (by omega) (by omega)]
    have h2 := hk (i - 1).toNat (by omega)
    rw [show (((i - 1).toNat : Nat) : Int) + 1 = i by omega, e, exp_data] at h2
    exact h2 rfl
theorem cut_exp (l : List UInt8) : cutE (expS ++ txt l) = txt l ∧ hasP (expS ++ txt l) = true := by
  have hp : hasP (expS ++ txt l) = true := by
    unfold hasP Lib.hasPrefix
    rw [exp_data]
    simp
  refine ⟨?_, hp⟩
  unfold cutE Lib.trimPrefix
  rw [show Lib.hasPrefix (expS ++ txt l).data.toList [101, 120, 112] = true from hp, if_pos rfl, exp_data]
  rfl
theorem of_exp {n : Nat} (h0 : 128 ≤ n) (h1 : n < 256) : ofF (nameF (n : Int)) = (n : Int) := by
  rw [nameF_exp h0 h1]
  unfold ofF
  rw [fst_exp n _ 10 1 (by omega) (by omega)]
  show endK _ = _
  unfold endK
  obtain ⟨e1, e2⟩ := cut_exp (dig3 n)
  rw [e1, txt_data, atoi3 n h0 h1]
  show (if Lib.hasPrefix _ _ = true then _ else _) = _
  rw [show Lib.hasPrefix (expS ++ txt (dig3 n)).data.toList [101, 120, 112] = true from e2, if_pos rfl, if_pos (by unfold expB; simp; omega), if_pos (by rw [itoa3 n (by omega) (by omega)])]
theorem of_known {k : Int} (h : knownB k = true) : ofF (nameF k) = k := by
  have hk := of_decide_eq_true h
  have := List.all_eq_true.1 (show (List.range 10).all (fun j => decide (ofF (nameF ((j : Int) + 1)) = (j : Int) + 1)) = true by decide +kernel) (k - 1).toNat (List.mem_range.2 (by omega))
  have h2 := of_decide_eq_true this
  rwa [show (((k - 1).toNat : Nat) : Int) + 1 = k by omega] at h2
theorem of_name {k : Int} (h : knownB k = true ∨ expB k = true) : ofF (nameF k) = k := by
  rcases h with h | h
  · exact of_known h
  · obtain ⟨n, rfl, h0, h1⟩ := exp_nat h
    exact of_exp h0 h1
theorem name_some {k : Int} (h : knownB k = true ∨ expB k = true) : (nameF k).size ≠ 0 := by
  rcases h with h | h
  · have hk := of_decide_eq_true h
    have := List.all_eq_true.1 (show (List.range 10).all (fun j => decide ((nameF ((j : Int) + 1)).size ≠ 0)) = true by decide +kernel) (k - 1).toNat (List.mem_range.2 (by omega))
    have h2 := of_decide_eq_true this
    rwa [show (((k - 1).toNat : Nat) : Int) + 1 = k by omega] at h2
  · obtain ⟨n, rfl, h0, h1⟩ := exp_nat h
    rw [nameF_exp h0 h1, ByteArray.size_append]
    show 3 + _ ≠ 0
    omega
theorem name_size (k : Int) : (nameF k).size ≤ 100 := by
  cases h : knownB k with
  | true =>
    have hk := of_decide_eq_true h
    have := List.all_eq_true.1 (show (List.range 10).all (fun j => decide ((nameF ((j : Int) + 1)).size ≤ 100)) = true by decide +kernel) (k - 1).toNat (List.mem_range.2 (by omega))
    have h2 := of_decide_eq_true this
    rwa [show (((k - 1).toNat : Nat) : Int) + 1 = k by omega] at h2
  | false =>
    cases h1 : expB k with
    | true =>
      obtain ⟨n, rfl, h0, h1⟩ := exp_nat h1
      rw [nameF_exp h0 h1, ByteArray.size_append]
      show 3 + 3 ≤ 100
      omega
    | false =>
      rw [nameF_none h h1]
      show 0 ≤ 100
      omega
/-- what the end of a name tells is named so -/
theorem endK_named {s : ByteArray} {v : Int} (h : endK s = v) (h0 : v ≠ 0) : nameF v = s ∧ expB v = true := by
  unfold endK at h
  rcases hA : Lib.atoiAll (cutE s).data.toList with u | _ | _
  case ok =>
    rw [hA] at h
    simp only at h
    split at h
    · rename_i hp
      split at h
      · rename_i he
        split at h
        · rename_i hi
          subst h
          refine ⟨?_, he⟩
          obtain ⟨n, rfl, h1, h2⟩ := exp_nat he
          rw [nameF_exp h1 h2, ← itoa3 n (by omega) (by omega), hi]
          have hc : (cutE s).data.toList = s.data.toList.drop 3 := by
            unfold cutE Lib.trimPrefix
            rw [hp, if_pos rfl]
            rfl
          apply ba_ext
          have e : (expS ++ cutE s).data.toList = [101, 120, 112] ++ (cutE s).data.toList := exp_data _
          rw [e, hc]
          obtain ⟨t, ht⟩ := List.isPrefixOf_iff_prefix.1 hp
          rw [← ht]
          rfl
        · exact absurd h.symm h0
      · exact absurd h.symm h0
    · exact absurd h.symm h0
  all_goals (rw [hA] at h; exact absurd h.symm h0)
theorem fst_some {s : ByteArray} : ∀ (f : Nat) (i k : Int), fstK s f i = some k → nameF k = s ∧ i ≤ k ∧ k < i + f
  | 0, _, _, h => by cases h
  | f + 1, i, k, h => by
    unfold fstK at h
    split at h
    · cases h
      rename_i e
      exact ⟨e, by omega, by omega⟩
    · obtain ⟨e, h1, h2⟩ := fst_some f (i + 1) k h
      exact ⟨e, by omega, by omega⟩
/-- what is told of a name is named so -/
theorem of_named {s : ByteArray} (h : ofF s ≠ 0) : nameF (ofF s) = s ∧ (knownB (ofF s) = true ∨ expB (ofF s) = true) := by
  unfold ofF at h ⊢
  cases hf : fstK s 10 1 with
  | some k =>
    obtain ⟨e, h1, h2⟩ := fst_some 10 1 k hf
    exact ⟨e, .inl (decide_eq_true (show 1 ≤ k ∧ k ≤ 10 by omega))⟩
  | none =>
    rw [hf] at h
    obtain ⟨e, h1⟩ := endK_named rfl h
    exact ⟨e, .inr h1⟩
theorem name_inj {a b : Int} (ha : knownB a = true ∨ expB a = true) (hb : knownB b = true ∨ expB b = true) (h : nameF a = nameF b) : a = b := by
  rw [← of_name ha, h, of_name hb]
end Go.Proofs.YthhohplddgklgaaDoor.Kind
