/- What the document's varint reading comes to, by the plain lists of bytes. For every input. -/
import Derived.Test.YtgpnkgmghnmmjaaQx14
import Derived.Test.YtgpnkgmghnmmjaaEv
import Derived.Test.YtgpnkgmghnmmjaaVintRQ
namespace Go.Proofs.Ytgpnkgmghnmmjaa.Q
open Go Go.RowKit Go.Proofs.YtgpnkgmghnmmjaaW.PrintWords Go.Proofs.YtgpnkgmghnmmjaaW.PrintLast Go.Proofs.YtgpnkgmghnmmjaaW.PrintMore ShCore

/-- The first loop: where the number ends. -/
theorem shuttlecockref01_Take.l0_ev (s : ByteArray) (p : Int) (hs : s.size < 4611686018427387904) (r : Int × Int × Int) : ∀ (l : List UInt8) (q : Nat), (lst s).drop q = l → q ≤ s.size →
    Ev (fun k => shuttlecockref01_Take.j2 k s p ((q + lead l : Nat) : Int)) r → Ev (fun k => shuttlecockref01_Take.l0 k s p (q : Int)) r := by
  have hlen := lst_length s
  intro l
  induction l with
  | nil =>
    intro q hl hq h
    have hq' : q = s.size := by
      have := congrArg List.length hl
      rw [List.length_drop, List.length_nil] at this
      omega
    refine Ev.step (fun k => ?_) h
    simp only [shuttlecockref01_Take.l0]
    rw [if_neg (by omega)]
    rfl
  | cons c l ih =>
    intro q hl hq h
    have hq' : q < s.size := by
      have := congrArg List.length hl
      rw [List.length_drop, List.length_cons] at this
      omega
    obtain ⟨d, hd, hb⟩ := drop_bt s q hq'
    rw [hl] at hd
    injection hd with hd1 hd2
    subst hd1
    by_cases h1 : 128 ≤ c.toNat
    · have h2 := ih (q + 1) hd2.symm (by omega) (by
        have : q + 1 + lead l = q + lead (c :: l) := by simp only [lead, if_pos h1]; omega
        rw [this]; exact h)
      refine Ev.step (fun k => ?_) h2
      simp only [shuttlecockref01_Take.l0]
      have a4 : (q : Int) + 1 = ((q + 1 : Nat) : Int) ∧ (q : Int) + 1 < 9223372036854775808 := by omega
      rw [if_pos (by omega), if_pos (by omega), hb, if_pos (by omega), wrap64_nat' a4.1 a4.2]
    · have e : q + lead (c :: l) = q := by simp [lead, h1]
      rw [e] at h
      refine Ev.step (fun k => ?_) h
      simp only [shuttlecockref01_Take.l0]
      rw [if_pos (by omega), if_pos (by omega), hb, if_neg (by omega)]
/-- What the sum comes to. -/
def sumEnd (p e : Nat) (sl : List UInt8) (n : Nat) : Int × Int × Int := if put n = sl then ((n : Int), ((p + e + 1 : Nat) : Int), 0) else (0, 0, 11)
theorem shuttlecockref01_Take.l1_ev (s : ByteArray) (p e : Nat) (he : p + e < s.size) (he8 : e ≤ 8) (hs : s.size < 4611686018427387904) : ∀ (d i n U : Nat), i + d = e + 1 → n < 128 ^ i → (i ≤ e → U = 128 ^ i) →
    Ev (fun k => shuttlecockref01_Take.l1 k s p ((p + e : Nat) : Int) n U ((p + i : Nat) : Int)) (sumEnd p e (((lst s).drop p).take (e + 1)) (n + sumF ((((lst s).drop p).take (e + 1)).drop i) * 128 ^ i)) := by
  have hlen := lst_length s
  intro d
  induction d with
  | zero =>
    intro i n U hi hn _
    have e1 : (((lst s).drop p).take (e + 1)).drop i = [] := List.drop_eq_nil_of_le (by rw [List.length_take]; omega)
    rw [e1]
    simp only [sumF, Nat.zero_mul, Nat.add_zero]
    have hx : Ev (fun k => shuttlecockref01_Put.f k (n : Int)) (arr (put n)) := shuttlecockref01_Put.ev n
    have a4 : ((p + e : Nat) : Int) + 1 = ((p + e + 1 : Nat) : Int) ∧ ((p + e : Nat) : Int) + 1 < 9223372036854775808 := by omega
    refine Ev.step (f := fun k => (shuttlecockref01_Put.f k (n : Int)).bind fun t => if t.toList = (s.extract p (p + e + 1)).toList then some ((n : Int), ((p + e + 1 : Nat) : Int), (0 : Int)) else some (0, 0, 11)) (fun k => ?_) (Ev.bind hx ?_)
    · simp only [shuttlecockref01_Take.l1]
      rw [if_neg (by omega), if_neg (by omega), wrap64_nat' a4.1 a4.2]
      congr 1
      funext t
      rw [if_pos (by omega), if_pos (by omega), if_pos (by omega)]
      rfl
    · simp only [toList_lst, lst_arr, lst_extract]
      unfold sumEnd
      rw [show p + e + 1 - p = e + 1 by omega]
      by_cases h : put n = ((lst s).drop p).take (e + 1)
      · rw [if_pos h, if_pos h]; exact Ev.now _
      · rw [if_neg h, if_neg h]; exact Ev.now _
  | succ d ih =>
    intro i n U hi hn hU
    obtain ⟨c, hc, hb⟩ := drop_bt s (p + i) (by omega)
    have hc8 := u8_lt c
    have e1 : (((lst s).drop p).take (e + 1)).drop i = c :: (((lst s).drop p).take (e + 1)).drop (i + 1) := by
      rw [List.drop_take, List.drop_drop, hc, show e + 1 - i = (e + 1 - (i + 1)) + 1 by omega, List.take_succ_cons, List.drop_take, List.drop_drop]
      rfl
    rw [e1]
    obtain rfl : U = 128 ^ i := hU (by omega)
    have eP : 128 ^ (i + 1) = 128 ^ i * 128 := Nat.pow_succ ..
    have hPl := pow128_le (show i ≤ 8 by clear hn; omega)
    have hV : c.toNat % 128 * 128 ^ i ≤ 127 * 128 ^ i := Nat.mul_le_mul_right _ (by omega)
    have hP2 : i < e → 128 ^ i * 128 ≤ 72057594037927936 := fun h => by rw [← eP]; exact pow128_le (by omega)
    have h1 := ih (i + 1) (n + c.toNat % 128 * 128 ^ i) (128 ^ (i + 1)) (by omega) (by rw [eP]; omega) (fun _ => rfl)
    have h2 : i = e → Ev (fun k => shuttlecockref01_Take.l1 k s p ((p + e : Nat) : Int) ((n + c.toNat % 128 * 128 ^ i : Nat) : Int) ((128 ^ i : Nat) : Int) ((p + (i + 1) : Nat) : Int)) (sumEnd p e (((lst s).drop p).take (e + 1)) ((n + c.toNat % 128 * 128 ^ i) + sumF ((((lst s).drop p).take (e + 1)).drop (i + 1)) * 128 ^ (i + 1))) :=
      fun h => ih (i + 1) (n + c.toNat % 128 * 128 ^ i) (128 ^ i) (by omega) (by rw [eP]; omega) (fun h' => by omega)
    have e2 : n + sumF (c :: (((lst s).drop p).take (e + 1)).drop (i + 1)) * 128 ^ i = (n + c.toNat % 128 * 128 ^ i) + sumF ((((lst s).drop p).take (e + 1)).drop (i + 1)) * 128 ^ (i + 1) := by
      simp only [sumF]
      rw [eP, Nat.add_mul, ← Nat.add_assoc]
      congr 1
      rw [Nat.mul_comm 128, Nat.mul_assoc, Nat.mul_comm 128]
    rw [e2]
    generalize sumEnd p e (((lst s).drop p).take (e + 1)) ((n + c.toNat % 128 * 128 ^ i) + sumF ((((lst s).drop p).take (e + 1)).drop (i + 1)) * 128 ^ (i + 1)) = R at *
    rw [eP] at h1
    clear e1 e2 eP ih hU
    generalize 128 ^ i = V at *
    generalize eW : c.toNat % 128 * V = W at *
    have a1 : ((n : Int) + ((W : Nat) : Int)) = ((n + W : Nat) : Int) ∧ ((n : Int) + ((W : Nat) : Int)) < 9223372036854775808 := by omega
    have a2 : ((c.toNat % 128 : Nat) : Int) * (V : Int) = ((W : Nat) : Int) ∧ ((c.toNat % 128 : Nat) : Int) * (V : Int) < 9223372036854775808 := by
      have : ((c.toNat % 128 : Nat) : Int) * (V : Int) = ((W : Nat) : Int) := by rw [← eW]; simp
      rw [this]
      omega
    have a3 : ((c.toNat % 128 : Nat) : Int) < 9223372036854775808 := by omega
    have hie : i ≤ e := by omega
    have a4 : ((p + i : Nat) : Int) + 1 = ((p + (i + 1) : Nat) : Int) ∧ ((p + i : Nat) : Int) + 1 < 9223372036854775808 := by omega
    by_cases h3 : i = e
    · refine Ev.step (fun k => ?_) (h2 h3)
      simp only [shuttlecockref01_Take.l1]
      rw [if_pos (by omega), if_pos (by omega), if_pos (by omega), if_neg (by omega), hb, tmod128, wrap64_nat' rfl a3, wrap64_nat' a2.1 a2.2, wrap64_nat' a1.1 a1.2, wrap64_nat' a4.1 a4.2]
    · have a5 : (V : Int) * 128 = ((V * 128 : Nat) : Int) ∧ (V : Int) * 128 < 9223372036854775808 := by omega
      refine Ev.step (fun k => ?_) h1
      simp only [shuttlecockref01_Take.l1]
      rw [if_pos (by omega), if_pos (by omega), if_pos (by omega), if_pos (by omega), hb, tmod128, wrap64_nat' rfl a3, wrap64_nat' a2.1 a2.2, wrap64_nat' a1.1 a1.2, wrap64_nat' a4.1 a4.2, wrap64_nat' a5.1 a5.2]
theorem shuttlecockref01_Take.ev (s : ByteArray) (p : Int) (hs : s.size < 4611686018427387904) : Ev (fun k => shuttlecockref01_Take.f k s p) (takeL (lst s) p) := by
  have hlen := lst_length s
  by_cases h0 : p < 0
  · have e : takeL (lst s) p = (0, 0, 1) := by unfold takeL; rw [if_pos (.inl h0)]
    rw [e]
    refine Ev.step (f := fun _ => some _) (fun k => ?_) (Ev.now _)
    unfold shuttlecockref01_Take.f
    rw [if_pos h0]
    rfl
  · by_cases h1 : p > (s.size : Int)
    · have e : takeL (lst s) p = (0, 0, 1) := by unfold takeL; rw [if_pos (.inr (by omega))]
      rw [e]
      refine Ev.step (f := fun _ => some _) (fun k => ?_) (Ev.now _)
      unfold shuttlecockref01_Take.f
      rw [if_neg h0]
      simp only [shuttlecockref01_Take.j0, decide_eq_true h1]
      rfl
    · obtain ⟨q, rfl⟩ := Int.eq_ofNat_of_zero_le (show 0 ≤ p by omega)
      refine Ev.step (f := fun k => shuttlecockref01_Take.l0 k s q q) (fun k => ?_) ?_
      · unfold shuttlecockref01_Take.f
        rw [if_neg h0]
        simp only [shuttlecockref01_Take.j0, decide_eq_false h1]
        rfl
      refine shuttlecockref01_Take.l0_ev s q hs _ ((lst s).drop q) q rfl (by omega) ?_
      have hll := lead_le ((lst s).drop q)
      have hdl : ((lst s).drop q).length = s.size - q := by rw [List.length_drop, hlen]
      unfold takeL
      rw [if_neg (by omega), Int.toNat_natCast]
      generalize hl : (lst s).drop q = l at *
      have a1 : ((q + lead l : Nat) : Int) - (q : Int) = ((lead l : Nat) : Int) ∧ ((q + lead l : Nat) : Int) - (q : Int) < 9223372036854775808 := by omega
      by_cases hend : q + lead l = s.size
      · have ht := tkh_more l (.inl (by omega))
        rw [ht]
        by_cases h9 : lead l < 9
        · rw [if_pos (show l.length < 9 by omega)]
          refine Ev.step (f := fun k => shuttlecockref01_Take.j3 k s q ((q + lead l : Nat) : Int) true) (fun k => ?_) (Ev.step (f := fun _ => some _) (fun k => ?_) (Ev.now _))
          · simp only [shuttlecockref01_Take.j2]
            rw [if_pos (by omega), wrap64_nat' a1.1 a1.2, decide_eq_true (by omega)]
          · rfl
        · rw [if_neg (show ¬ l.length < 9 by omega)]
          refine Ev.step (f := fun k => shuttlecockref01_Take.j3 k s q ((q + lead l : Nat) : Int) false) (fun k => ?_) (Ev.step (f := fun _ => some _) (fun k => ?_) (Ev.now _))
          · simp only [shuttlecockref01_Take.j2]
            rw [if_pos (by omega), wrap64_nat' a1.1 a1.2, decide_eq_false (by omega)]
          · simp only [shuttlecockref01_Take.j3]
            rw [if_neg (by simp), wrap64_nat' a1.1 a1.2, if_pos (by omega)]
            rfl
      · by_cases h9 : lead l ≤ 8
        · have ht := tkh_lead l (by omega) h9
          rw [ht]
          have hz := shuttlecockref01_Take.l1_ev s q (lead l) (by omega) h9 hs (lead l + 1) 0 0 1 (by omega) (by simp) (fun _ => by simp)
          rw [hl] at hz
          refine Ev.step (f := fun k => shuttlecockref01_Take.j3 k s q ((q + lead l : Nat) : Int) false) (fun k => ?_) (Ev.step (f := fun k => shuttlecockref01_Take.l1 k s q ((q + lead l : Nat) : Int) 0 1 q) (fun k => ?_) ?_)
          · simp only [shuttlecockref01_Take.j2]
            rw [if_neg (by omega)]
          · simp only [shuttlecockref01_Take.j3]
            rw [if_neg (by simp), wrap64_nat' a1.1 a1.2, if_neg (by omega)]
          · simp only [List.drop_zero, Nat.pow_zero, Nat.mul_one, Nat.zero_add] at hz
            unfold sumEnd at hz
            by_cases hp : put ((sumF (l.take (lead l + 1)) : Nat) : Int) = l.take (lead l + 1)
            · rw [if_pos hp] at hz ⊢
              simp only [if_true]
              exact hz
            · rw [if_neg hp] at hz ⊢
              exact hz
        · have ht := tkh_more l (.inr (by omega))
          rw [if_neg (show ¬ l.length < 9 by omega)] at ht
          rw [ht]
          refine Ev.step (f := fun k => shuttlecockref01_Take.j3 k s q ((q + lead l : Nat) : Int) false) (fun k => ?_) (Ev.step (f := fun _ => some _) (fun k => ?_) (Ev.now _))
          · simp only [shuttlecockref01_Take.j2]
            rw [if_neg (by omega)]
          · simp only [shuttlecockref01_Take.j3]
            rw [if_neg (by simp), wrap64_nat' a1.1 a1.2, if_pos (by omega)]
            rfl
end Go.Proofs.Ytgpnkgmghnmmjaa.Q
