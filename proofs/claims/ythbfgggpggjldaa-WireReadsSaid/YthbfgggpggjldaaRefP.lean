/- What the document's reader (shuttlecockref02) comes to, by the same plain functions of lists. For every input within the machine's sizes. -/
import Derived.Test.YthbfgggpggjldaaQx4
import Derived.Test.YthbfgggpggjldaaVintRQ
import Derived.Test.YthbfgggpggjldaaWireP
namespace Go.Proofs.Ythbfgggpggjldaa.Q
open Go Go.RowKit Go.Proofs.YthbfgggpggjldaaW.PrintWords Go.Proofs.YthbfgggpggjldaaW.PrintLast Go.Proofs.YthbfgggpggjldaaW.PrintMore ShCore

/-- Behind an error a reader stands where the call with the error began. -/
def rdInv (r : Rd) : Prop := r.e = 0 ∨ r.f ≤ r.a
theorem rdInv_take0 {s : List UInt8} {r : Rd} (n b : Int) (he : r.e = 0) : rdInv (rdTake0 s r n b).2 := by
  unfold rdTake0
  split
  · exact .inr (Int.le_refl _)
  · split
    · exact .inr (Int.le_refl _)
    · exact .inl he
theorem rdInv_take {s : List UInt8} {r : Rd} (h : rdInv r) (n : Int) : rdInv (rdTake s r n).2 := by
  unfold rdTake
  split
  · rename_i he
    exact rdInv_take0 n _ he
  · exact h
theorem rdInv_byte {s : List UInt8} {r : Rd} (h : rdInv r) : rdInv (rdByte s r).2 := by
  unfold rdByte
  split <;> exact rdInv_take h 1
theorem rdInv_num {s : List UInt8} {r : Rd} (h : rdInv r) : rdInv (rdNum s r).2 := by
  unfold rdNum
  split
  · rename_i he
    split
    · exact .inl he
    · exact .inr (Int.le_refl _)
  · exact h
theorem rdInv_text {s : List UInt8} {r : Rd} (h : rdInv r) : rdInv (rdText s r).2 := by
  unfold rdText
  split
  · split
    · rename_i he
      exact rdInv_take0 _ _ he
    · exact rdInv_num h
  · exact h
theorem refNum (s : ByteArray) (a e f : Int) {n : Int} {a' e' f' : Int} (hs : s.size < 4611686018427387904) (hr : rdNum (lst s) ⟨a, e, f⟩ = (n, ⟨a', e', f'⟩)) : Ev (fun k => shuttlecockref02_Reader_Num.f k s a e f) (n, s, a', e', f') := by
  unfold shuttlecockref02_Reader_Num.f
  unfold rdNum at hr
  by_cases c : e = 0
  · refine evYes c ?_
    refine Ev.bind (shuttlecockref01_Take.ev s a hs) ?_
    rw [if_pos c] at hr
    by_cases c2 : (takeL (lst s) a).2.2 = 0
    · simp only [if_pos c2] at hr ⊢
      simp only [Prod.mk.injEq, Rd.mk.injEq] at hr
      obtain ⟨rfl, rfl, rfl, rfl⟩ := hr
      exact Ev.now _
    · simp only [if_neg c2] at hr ⊢
      simp only [Prod.mk.injEq, Rd.mk.injEq] at hr
      obtain ⟨rfl, rfl, rfl, rfl⟩ := hr
      exact Ev.now _
  · refine evNo c ?_
    rw [if_neg c] at hr
    simp only [Prod.mk.injEq, Rd.mk.injEq] at hr
    obtain ⟨rfl, rfl, rfl, rfl⟩ := hr
    exact Ev.now _
theorem refTake (s : ByteArray) (a e f n : Int) {l : List UInt8} {a' e' f' : Int} (hs : s.size < 4611686018427387904) (h : Rd.ok (lst s) ⟨a, e, f⟩) (hn : n < 9223372036854775808) (hr : rdTake (lst s) ⟨a, e, f⟩ n = (l, ⟨a', e', f'⟩)) : shuttlecockref02_Reader_Take.f s a e f n = some (arr l, s, a', e', f') := by
  have hl := lst_length s
  obtain ⟨h0, h1⟩ := h
  simp only at h0 h1
  rw [hl] at h1
  have a1 : -9223372036854775808 ≤ (s.size : Int) - a ∧ (s.size : Int) - a < 9223372036854775808 := by omega
  unfold shuttlecockref02_Reader_Take.f shuttlecockref02_Reader_fail.f
  unfold rdTake rdTake0 at hr
  simp only [hl] at hr
  rw [wrap64_of a1.1 a1.2]
  by_cases c : e = 0
  · rw [if_pos c] at hr ⊢
    by_cases c1 : n < 0
    · rw [if_pos c1] at hr ⊢
      simp only [Prod.mk.injEq, Rd.mk.injEq] at hr
      obtain ⟨rfl, rfl, rfl, rfl⟩ := hr
      rfl
    · rw [if_neg c1] at hr ⊢
      by_cases c2 : n > (s.size : Int) - a
      · rw [if_pos c2] at hr ⊢
        simp only [Prod.mk.injEq, Rd.mk.injEq] at hr
        obtain ⟨rfl, rfl, rfl, rfl⟩ := hr
        rfl
      · rw [if_neg c2] at hr ⊢
        simp only [Prod.mk.injEq, Rd.mk.injEq] at hr
        obtain ⟨rfl, rfl, rfl, rfl⟩ := hr
        have a2 : -9223372036854775808 ≤ a + n ∧ a + n < 9223372036854775808 := by omega
        have a3 : -9223372036854775808 ≤ a + n - n ∧ a + n - n < 9223372036854775808 := by omega
        rw [wrap64_of a2.1 a2.2, wrap64_of a3.1 a3.2, if_pos (by omega), if_pos (by omega), if_pos (by omega)]
        have e1 : s.extract (a + n - n).toNat (a + n).toNat = arr (((lst s).drop a.toNat).take n.toNat) := by
          apply lst_inj
          rw [lst_extract, lst_arr, show (a + n).toNat - (a + n - n).toNat = n.toNat by omega, show (a + n - n).toNat = a.toNat by omega]
        rw [e1]
  · rw [if_neg c] at hr ⊢
    simp only [Prod.mk.injEq, Rd.mk.injEq] at hr
    obtain ⟨rfl, rfl, rfl, rfl⟩ := hr
    rfl
theorem refByte (s : ByteArray) (a e f : Int) {n : Int} {a' e' f' : Int} (hs : s.size < 4611686018427387904) (h : Rd.ok (lst s) ⟨a, e, f⟩) (hr : rdByte (lst s) ⟨a, e, f⟩ = (n, ⟨a', e', f'⟩)) : shuttlecockref02_Reader_Byte.f s a e f = some (n, s, a', e', f') := by
  unfold shuttlecockref02_Reader_Byte.f
  unfold rdByte at hr
  generalize ht : rdTake (lst s) ⟨a, e, f⟩ 1 = t at hr
  obtain ⟨l, q⟩ := t
  rw [refTake s a e f 1 hs h (by omega) ht]
  simp only [Option.bind_some]
  cases l with
  | nil =>
    simp only [Prod.mk.injEq] at hr
    obtain ⟨rfl, rfl⟩ := hr
    rfl
  | cons c l =>
    simp only [Prod.mk.injEq] at hr
    obtain ⟨rfl, rfl⟩ := hr
    have hc := u8_lt c
    rw [if_neg (by rw [size_arr]; simp; omega), if_pos (by rw [size_arr]; simp)]
    simp only [bt_zero]
    rw [wrap64_of (by omega) (by omega)]
theorem refText (s : ByteArray) (a e f : Int) {l : List UInt8} {a' e' f' : Int} (hs : s.size < 4611686018427387904) (h : Rd.ok (lst s) ⟨a, e, f⟩) (hi : rdInv ⟨a, e, f⟩) (hr : rdText (lst s) ⟨a, e, f⟩ = (l, ⟨a', e', f'⟩)) : Ev (fun k => shuttlecockref02_Reader_Text.f k s a e f) (arr l, s, a', e', f') := by
  unfold shuttlecockref02_Reader_Text.f
  have hk := rdNum_ok h
  have hnn := rdNum_nonneg (lst s) ⟨a, e, f⟩
  generalize hq : rdNum (lst s) ⟨a, e, f⟩ = q at hk hnn
  obtain ⟨n, a1, e1, f1⟩ := q
  refine Ev.bind (refNum s a e f hs hq) ?_
  simp only at hk hnn ⊢
  unfold rdText at hr
  simp only [hq] at hr
  by_cases c : e = 0
  · rw [if_pos c] at hr
    subst c
    by_cases c1 : e1 = 0
    · rw [if_pos c1] at hr
      subst c1
      have h1 : a < a1 := by
        unfold rdNum at hq
        rw [if_pos rfl] at hq
        split at hq
        · rename_i ht
          obtain ⟨_, u, hu, hu1, _⟩ := takeL_back _ _ ht
          simp only [Prod.mk.injEq, Rd.mk.injEq] at hq
          have h3 := hq.2.1
          simp only at hu
          omega
        · rename_i ht
          simp only [Prod.mk.injEq, Rd.mk.injEq] at hq
          exact absurd hq.2.2.1 ht
      generalize ht : rdTake (lst s) ⟨a1, 0, f1⟩ n = t
      obtain ⟨l2, a2, e2, f2⟩ := t
      have hT := refTake s a1 0 f1 n hs hk (by omega) ht
      refine Ev.bind (evC hT) ?_
      simp only
      unfold rdTake at ht
      rw [if_pos rfl] at ht
      unfold rdTake0 at ht hr
      by_cases c2 : n < 0
      · omega
      · rw [if_neg c2] at ht hr
        by_cases c3 : n > ((lst s).length : Int) - a1
        · simp only [if_pos c3, Prod.mk.injEq, Rd.mk.injEq] at ht hr
          obtain ⟨rfl, rfl, rfl, rfl⟩ := ht
          obtain ⟨rfl, rfl, rfl, rfl⟩ := hr
          refine evNo (by omega) (evYes h1 ?_)
          exact Ev.now _
        · simp only [if_neg c3, Prod.mk.injEq, Rd.mk.injEq] at ht hr
          obtain ⟨rfl, rfl, rfl, rfl⟩ := ht
          obtain ⟨rfl, rfl, rfl, rfl⟩ := hr
          exact evYes rfl (Ev.now _)
    · rw [if_neg c1] at hr
      simp only [Prod.mk.injEq, Rd.mk.injEq] at hr
      obtain ⟨rfl, rfl, rfl, rfl⟩ := hr
      have hf : f1 = a := by
        unfold rdNum at hq
        rw [if_pos rfl] at hq
        split at hq
        · simp only [Prod.mk.injEq, Rd.mk.injEq] at hq
          exact absurd hq.2.2.1.symm c1
        · simp only [Prod.mk.injEq, Rd.mk.injEq] at hq
          exact hq.2.2.2.symm
      have ht : rdTake (lst s) ⟨a1, e1, f1⟩ n = ([], ⟨a1, e1, f1⟩) := by unfold rdTake; rw [if_neg c1]
      refine Ev.bind (evC (refTake s a1 e1 f1 n hs hk (by omega) ht)) ?_
      exact evNo c1 (evNo (by simp only; omega) (Ev.now _))
  · rw [if_neg c] at hr
    simp only [Prod.mk.injEq, Rd.mk.injEq] at hr
    obtain ⟨rfl, rfl, rfl, rfl⟩ := hr
    unfold rdNum at hq
    rw [if_neg c] at hq
    simp only [Prod.mk.injEq, Rd.mk.injEq] at hq
    obtain ⟨rfl, rfl, rfl, rfl⟩ := hq
    have ht : rdTake (lst s) ⟨a, e, f⟩ 0 = ([], ⟨a, e, f⟩) := by unfold rdTake; rw [if_neg c]
    refine Ev.bind (evC (refTake s a e f 0 hs hk (by omega) ht)) ?_
    have hfa : f ≤ a := by
      rcases hi with hi | hi
      · exact absurd hi c
      · exact hi
    exact evNo c (evNo (by simp only; omega) (Ev.now _))
theorem refDone (s : ByteArray) (a e f : Int) {b : Bool} (hr : rdDone (lst s) ⟨a, e, f⟩ = b) : shuttlecockref02_Reader_Done.f s a e f = some (b, s, a, e, f) := by
  subst hr
  unfold shuttlecockref02_Reader_Done.f rdDone
  rw [lst_length]
  by_cases c : e = 0
  · simp [c]
  · simp [c]
end Go.Proofs.Ythbfgggpggjldaa.Q
