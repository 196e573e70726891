/- What varint's printed functions come to, by the plain lists of bytes. For every input. -/
import Derived.Test.YthechcflnkofgaaQx6
import Derived.Test.YthechcflnkofgaaQx2
import Derived.Test.YthechcflnkofgaaVint
namespace Go.Proofs.Ythechcflnkofgaa.Q
open Go Go.RowKit Go.Proofs.YthechcflnkofgaaW.PrintWords Go.Proofs.YthechcflnkofgaaW.PrintLast Go.Proofs.YthechcflnkofgaaW.PrintMore ShCore

theorem varint_Put.l0_ev (f : Nat) : ∀ (n : Nat) (acc : List Int), n < 128 ^ (f + 1) → n < 9223372036854775808 → acc.length + f < 1000 →
    Ev (fun k => varint_Put.l0 k n acc) (strOfNums (acc ++ (putF f n).map fun c => (c.toNat : Int))) := by
  induction f with
  | zero =>
    intro n acc hn _ hl
    have h1 : n < 128 := by simpa using hn
    refine Ev.step (f := fun _ => some _) (fun k => ?_) (Ev.now _)
    simp only [varint_Put.l0]
    rw [if_neg (by omega), if_pos (by omega), last_byte n h1]
    rfl
  | succ f ih =>
    intro n acc hn hb hl
    by_cases h1 : n < 128
    · refine Ev.step (f := fun _ => some _) (fun k => ?_) (Ev.now _)
      simp only [varint_Put.l0]
      rw [if_neg (by omega), if_pos (by omega), last_byte n h1]
      simp only [putF, if_pos h1]
      rfl
    · have h3 : n / 128 < 128 ^ (f + 1) := by rw [Nat.pow_succ] at hn; exact Nat.div_lt_of_lt_mul (by rw [Nat.mul_comm]; exact hn)
      have h2 := ih (n / 128) (acc ++ [((UInt8.ofNat (128 + n % 128)).toNat : Int)]) h3 (by omega) (by simp; omega)
      refine Ev.step (fun k => ?_) (r := _) (f := fun k => varint_Put.l0 k ((n / 128 : Nat) : Int) (acc ++ [((UInt8.ofNat (128 + n % 128)).toNat : Int)])) ?_
      · simp only [varint_Put.l0]
        rw [if_pos (by omega), if_pos (by omega), put_byte n hb]
        rfl
      · simp only [putF, if_neg h1, List.map_cons]
        rw [List.append_assoc] at h2
        exact h2
theorem varint_Put.ev (n : Int) : Ev (fun k => varint_Put.f k n) (arr (put n)) := by
  have e0 : (⟨#[]⟩ : ByteArray) = arr [] := rfl
  by_cases h0 : n < 0
  · have e : put n = [] := by unfold put; rw [if_pos (.inl h0)]
    rw [e]
    refine Ev.step (f := fun _ => some _) (fun k => ?_) (Ev.now _)
    unfold varint_Put.f
    rw [if_pos h0]
    rfl
  · by_cases h1 : n ≥ 4611686018427387904
    · have e : put n = [] := by unfold put; rw [if_pos (.inr h1)]
      rw [e]
      refine Ev.step (f := fun _ => some _) (fun k => ?_) (Ev.now _)
      unfold varint_Put.f
      rw [if_neg h0]
      simp only [varint_Put.j0, decide_eq_true h1]
      rfl
    · obtain ⟨m, rfl⟩ := Int.eq_ofNat_of_zero_le (show 0 ≤ n by omega)
      rw [put_nat m (by omega)]
      have h2 := varint_Put.l0_ev 8 m [] (by omega) (by omega) (by simp)
      rw [List.nil_append, strOfNums_bytes] at h2
      refine Ev.step (fun k => ?_) h2
      unfold varint_Put.f
      rw [if_neg h0]
      simp only [varint_Put.j0, decide_eq_false h1]
      rfl

theorem varint_Take.l0_ev (s : ByteArray) (p : Nat) (hp : p ≤ s.size) (hs : s.size < 4611686018427387904) (lim : Nat) (hlim : lim = min 9 (s.size - p)) (d : Nat) : ∀ (i acc : Nat), i + d = lim → acc < 128 ^ i →
    Ev (fun k => varint_Take.l0 k s p acc lim i) (fin p i acc (tk (9 - i) (i == 0) ((lst s).drop (p + i)))) := by
  have hlen := lst_length s
  induction d with
  | zero =>
    intro i acc hi ha
    refine Ev.step (f := fun _ => some _) (fun k => ?_) (Ev.now _)
    simp only [varint_Take.l0]
    rw [if_neg (by omega)]
    have a1 : (s.size : Int) - p = ((s.size - p : Nat) : Int) ∧ (s.size : Int) - p < 9223372036854775808 := by omega
    rw [wrap64_nat' a1.1 a1.2]
    by_cases h9 : s.size - p < 9
    · rw [if_pos (by omega)]
      obtain ⟨q, hq⟩ : ∃ q, 9 - i = q + 1 := ⟨8 - i, by omega⟩
      have hd : (lst s).drop (p + i) = [] := List.drop_eq_nil_of_le (by omega)
      rw [hq, hd]
      rfl
    · rw [if_neg (by omega)]
      rw [show 9 - i = 0 by omega]
      rfl
  | succ d ih =>
    intro i acc hi ha
    have hlt : p + i < s.size := by omega
    obtain ⟨c, hc, hb⟩ := drop_bt s (p + i) hlt
    obtain ⟨q, hq⟩ : ∃ q, 9 - i = q + 1 := ⟨8 - i, by omega⟩
    have hc8 := u8_lt c
    have hU := pow128_le (show i ≤ 8 by omega)
    have hV : c.toNat % 128 * 128 ^ i ≤ 127 * 128 ^ i := Nat.mul_le_mul_right _ (by omega)
    have hcm : c.toNat % 128 < 128 := by clear hU hV ha; omega
    have hi8 : i ≤ 8 := by clear hU hV ha; omega
    have e7 := or_shl i acc (c.toNat % 128) hi8 ha hcm
    have eP : 128 ^ (i + 1) = 128 ^ i * 128 := Nat.pow_succ ..
    have e6 := and_byte c
    have eF : ∀ r, fin p i acc r = fin0 p i acc (128 ^ i) r := fin_now p i acc
    have eG : ∀ a r, fin p (i + 1) a r = fin0 p (i + 1) a (128 ^ i * 128) r := fin_succ p i
    rw [eF]
    generalize 128 ^ i = U at hU hV ha e7 eP eF eG
    have a1 : (p : Int) + i = ((p + i : Nat) : Int) ∧ (p : Int) + i < 9223372036854775808 := by omega
    have a2 : (c.toNat : Int) < 9223372036854775808 := by omega
    have a3 : -9223372036854775808 ≤ 7 * (i : Int) ∧ 7 * (i : Int) < 9223372036854775808 := by omega
    have a4 : (i : Int) + 1 = ((i + 1 : Nat) : Int) ∧ (i : Int) + 1 < 9223372036854775808 := by omega
    have a5 : ((p + i : Nat) : Int) + 1 = ((p + i + 1 : Nat) : Int) ∧ ((p + i : Nat) : Int) + 1 < 9223372036854775808 := by omega
    rw [hq, hc]
    by_cases h1 : 128 ≤ c.toNat
    · have h2 := ih (i + 1) (acc + c.toNat % 128 * U) (by omega) (by rw [eP]; omega)
      refine Ev.step (fun k => ?_) (f := fun k => varint_Take.l0 k s p ((acc + c.toNat % 128 * U : Nat) : Int) lim ((i + 1 : Nat) : Int)) ?_
      · simp only [varint_Take.l0, wrap64_nat' a1.1 a1.2, hb, wrap64_nat' rfl a2, wrap64_of a3.1 a3.2, wrap64_nat' a4.1 a4.2, e6, e7]
        rw [if_pos (by omega), if_pos (by omega), if_pos (by omega), if_pos (by omega), if_pos (by omega)]
      · rw [eG, show 9 - (i + 1) = q by omega, show (i + 1 == 0) = false from rfl, show p + (i + 1) = p + i + 1 by omega] at h2
        simp only [tk, if_pos h1]
        have e8 := fin0_next p i acc U c h1 (tk q false ((lst s).drop (p + i + 1)))
        rw [e8]
        exact h2
    · refine Ev.step (f := fun _ => some _) (fun k => ?_) (Ev.now _)
      have e8 : c.toNat % 128 = c.toNat := by omega
      rw [e8] at hV e6 e7
      simp only [varint_Take.l0, wrap64_nat' a1.1 a1.2, hb, wrap64_nat' rfl a2, wrap64_of a3.1 a3.2, wrap64_nat' a4.1 a4.2, wrap64_nat' a5.1 a5.2, e6, e7]
      rw [if_pos (by omega), if_pos (by omega), if_pos (by omega), if_pos (by omega), if_neg (by omega)]
      simp only [tk, if_neg h1]
      by_cases hz : c.toNat = 0
      · rw [if_pos (by omega)]
        by_cases hi0 : i = 0
        · subst hi0
          rw [if_neg (by omega), if_neg (by omega), if_neg (by omega), if_neg (by simp)]
          simp [fin0, hz]
          omega
        · rw [if_pos (by omega), if_pos ⟨hz, by simp; omega⟩]
          rfl
      · have hz' : ¬ (c.toNat = 0 ∧ (i == 0) = false) := fun h => hz h.1
        rw [if_neg (by omega), if_neg hz']
        unfold fin0
        simp only [if_true]
        by_cases hm : acc + c.toNat * U ≥ 4611686018427387904
        · rw [if_pos (by omega), if_pos hm]
        · rw [if_neg (by omega), if_neg (by omega), if_neg hm]
theorem varint_Take.ev (s : ByteArray) (p : Int) (hs : s.size < 4611686018427387904) : Ev (fun k => varint_Take.f k s p) (takeL (lst s) p) := by
  have hlen := lst_length s
  by_cases h0 : p < 0
  · have e : takeL (lst s) p = (0, 0, 1) := by unfold takeL; rw [if_pos (.inl h0)]
    rw [e]
    refine Ev.step (f := fun _ => some _) (fun k => ?_) (Ev.now _)
    unfold varint_Take.f
    rw [if_pos h0]
    rfl
  · by_cases h1 : p > (s.size : Int)
    · have e : takeL (lst s) p = (0, 0, 1) := by unfold takeL; rw [if_pos (.inr (by omega))]
      rw [e]
      refine Ev.step (f := fun _ => some _) (fun k => ?_) (Ev.now _)
      unfold varint_Take.f
      rw [if_neg h0]
      simp only [varint_Take.j0, decide_eq_true h1]
      rfl
    · obtain ⟨q, rfl⟩ := Int.eq_ofNat_of_zero_le (show 0 ≤ p by omega)
      have e : takeL (lst s) (q : Int) = fin q 0 0 (tk 9 true ((lst s).drop q)) := by
        unfold takeL
        rw [if_neg (by omega), fin_tkh]
        simp
      rw [e]
      have h2 := varint_Take.l0_ev s q (by omega) hs (min 9 (s.size - q)) rfl (min 9 (s.size - q)) 0 0 (by omega) (by simp)
      refine Ev.step (fun k => ?_) h2
      unfold varint_Take.f
      rw [if_neg h0]
      simp only [varint_Take.j0, decide_eq_false h1]
      have e2 : mn 9 (wrap64 ((s.size : Int) - q)) = ((min 9 (s.size - q) : Nat) : Int) := by unfold mn wrap64; split <;> omega
      rw [e2]
      rfl
end Go.Proofs.Ythechcflnkofgaa.Q
