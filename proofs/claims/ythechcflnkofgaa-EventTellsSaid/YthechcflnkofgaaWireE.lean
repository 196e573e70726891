/- What wire's printed functions come to, by plain lists of bytes. For every input within the machine's sizes. -/
import Derived.Test.YthechcflnkofgaaQx1
import Derived.Test.YthechcflnkofgaaQx2
import Derived.Test.YthechcflnkofgaaQx3
import Derived.Test.YthechcflnkofgaaQx6
import Derived.Test.YthechcflnkofgaaVintPQ
import Derived.Test.YthechcflnkofgaaWire
namespace Go.Proofs.Ythechcflnkofgaa.Q
open Go Go.RowKit Go.Proofs.YthechcflnkofgaaW.PrintWords Go.Proofs.YthechcflnkofgaaW.PrintLast Go.Proofs.YthechcflnkofgaaW.PrintMore ShCore

theorem wire_Reader_take.eq (s : ByteArray) (r : Rd) (n b : Int) (hs : s.size < 4611686018427387904) (h : r.ok (lst s)) (hn : n < 9223372036854775808) :
    wire_Reader_take.f s r.a r.e r.f n b = some (arr (rdTake0 (lst s) r n b).1, s, (rdTake0 (lst s) r n b).2.a, (rdTake0 (lst s) r n b).2.e, (rdTake0 (lst s) r n b).2.f) := by
  obtain ⟨a, e, f⟩ := r
  have hl := lst_length s
  obtain ⟨h0, h1⟩ := h
  simp only at h0 h1
  rw [hl] at h1
  have a1 : -9223372036854775808 ≤ (s.size : Int) - a ∧ (s.size : Int) - a < 9223372036854775808 := by omega
  unfold wire_Reader_take.f rdTake0
  rw [wrap64_of a1.1 a1.2]
  simp only [hl]
  by_cases c1 : n < 0
  · rw [if_pos c1, if_pos c1]
    rfl
  · rw [if_neg c1, if_neg c1]
    by_cases c2 : n > (s.size : Int) - a
    · rw [if_pos c2, if_pos c2]
      rfl
    · rw [if_neg c2, if_neg c2]
      have a2 : -9223372036854775808 ≤ a + n ∧ a + n < 9223372036854775808 := by omega
      rw [wrap64_of a2.1 a2.2, if_pos h0, if_pos (by omega), if_pos (by omega)]
      have e1 : s.extract a.toNat (a + n).toNat = arr (((lst s).drop a.toNat).take n.toNat) := by
        apply lst_inj
        rw [lst_extract, lst_arr, show (a + n).toNat - a.toNat = n.toNat by omega]
      rw [e1]
theorem wire_Reader_Take.eq (s : ByteArray) (r : Rd) (n : Int) (hs : s.size < 4611686018427387904) (h : r.ok (lst s)) (hn : n < 9223372036854775808) :
    wire_Reader_Take.f s r.a r.e r.f n = some (arr (rdTake (lst s) r n).1, s, (rdTake (lst s) r n).2.a, (rdTake (lst s) r n).2.e, (rdTake (lst s) r n).2.f) := by
  unfold wire_Reader_Take.f wire_Reader_ok.f rdTake
  simp only [Option.bind_some]
  by_cases c : r.e = 0
  · rw [if_pos (by simpa using c), if_pos c, wire_Reader_take.eq s r n r.a hs h hn]
    rfl
  · rw [if_neg (by simpa using c), if_neg c]
    rfl
theorem bt_zero (c : UInt8) (l : List UInt8) : bt (arr (c :: l)) 0 = c.toNat := by
  obtain ⟨d, hd, hb⟩ := drop_bt (arr (c :: l)) 0 (by rw [size_arr]; simp)
  rw [lst_arr] at hd
  simp at hd
  rw [← hd] at hb
  exact hb
theorem wire_Reader_Byte.eq (s : ByteArray) (r : Rd) (hs : s.size < 4611686018427387904) (h : r.ok (lst s)) :
    wire_Reader_Byte.f s r.a r.e r.f = some ((rdByte (lst s) r).1, s, (rdByte (lst s) r).2.a, (rdByte (lst s) r).2.e, (rdByte (lst s) r).2.f) := by
  unfold wire_Reader_Byte.f rdByte
  rw [wire_Reader_Take.eq s r 1 hs h (by omega)]
  simp only [Option.bind_some, toList_lst, lst_arr]
  generalize rdTake (lst s) r 1 = t
  obtain ⟨l, q⟩ := t
  cases l with
  | nil => rfl
  | cons c l =>
    have hc := u8_lt c
    rw [if_neg (by simp), if_pos (by rw [size_arr]; simp)]
    simp only [bt_zero]
    rw [wrap64_of (by omega) (by omega)]
theorem wire_Reader_Num.ev (s : ByteArray) (r : Rd) (hs : s.size < 4611686018427387904) :
    Ev (fun k => wire_Reader_Num.f k s r.a r.e r.f) ((rdNum (lst s) r).1, s, (rdNum (lst s) r).2.a, (rdNum (lst s) r).2.e, (rdNum (lst s) r).2.f) := by
  unfold wire_Reader_Num.f wire_Reader_ok.f rdNum
  simp only [Option.bind_some]
  by_cases c : r.e = 0
  · rw [if_pos c]
    refine evYes (by simpa using c) ?_
    refine Ev.bind (varint_Take.ev s r.a hs) ?_
    by_cases c2 : (takeL (lst s) r.a).2.2 = 0
    · simp only [if_pos c2]
      exact Ev.now _
    · simp only [if_neg c2]
      exact Ev.now _
  · rw [if_neg c]
    exact evNo (by simpa using c) (Ev.now _)
theorem wire_Reader_Text.ev (s : ByteArray) (r : Rd) (hs : s.size < 4611686018427387904) (h : r.ok (lst s)) :
    Ev (fun k => wire_Reader_Text.f k s r.a r.e r.f) (arr (rdText (lst s) r).1, s, (rdText (lst s) r).2.a, (rdText (lst s) r).2.e, (rdText (lst s) r).2.f) := by
  unfold wire_Reader_Text.f wire_Reader_ok.f rdText
  simp only [Option.bind_some]
  by_cases c : r.e = 0
  · rw [if_pos c]
    refine evYes (by simpa using c) ?_
    refine Ev.bind (wire_Reader_Num.ev s r hs) ?_
    have hn := rdNum_nonneg (lst s) r
    have hk := rdNum_ok h
    generalize rdNum (lst s) r = q at *
    obtain ⟨n, q⟩ := q
    simp only at hn hk ⊢
    by_cases c2 : q.e = 0
    · rw [if_pos c2]
      refine evYes (by simpa using c2) ?_
      simp only [wire_Reader_take.eq s q n r.a hs hk (by omega), Option.bind_some]
      exact Ev.now _
    · rw [if_neg c2]
      exact evNo (by simpa using c2) (Ev.now _)
  · rw [if_neg c]
    exact evNo (by simpa using c) (Ev.now _)
theorem rTake (s : ByteArray) (a e f n : Int) {l : List UInt8} {a' e' f' : Int} (hs : s.size < 4611686018427387904) (h : Rd.ok (lst s) ⟨a, e, f⟩) (hn : n < 9223372036854775808) (hr : rdTake (lst s) ⟨a, e, f⟩ n = (l, ⟨a', e', f'⟩)) : wire_Reader_Take.f s a e f n = some (arr l, s, a', e', f') := by
  have := wire_Reader_Take.eq s ⟨a, e, f⟩ n hs h hn
  rw [hr] at this
  exact this
theorem rByte (s : ByteArray) (a e f : Int) {n : Int} {a' e' f' : Int} (hs : s.size < 4611686018427387904) (h : Rd.ok (lst s) ⟨a, e, f⟩) (hr : rdByte (lst s) ⟨a, e, f⟩ = (n, ⟨a', e', f'⟩)) : wire_Reader_Byte.f s a e f = some (n, s, a', e', f') := by
  have := wire_Reader_Byte.eq s ⟨a, e, f⟩ hs h
  rw [hr] at this
  exact this
theorem rNum (s : ByteArray) (a e f : Int) {n : Int} {a' e' f' : Int} (hs : s.size < 4611686018427387904) (hr : rdNum (lst s) ⟨a, e, f⟩ = (n, ⟨a', e', f'⟩)) : Ev (fun k => wire_Reader_Num.f k s a e f) (n, s, a', e', f') := by
  have := wire_Reader_Num.ev s ⟨a, e, f⟩ hs
  rw [hr] at this
  exact this
theorem rText' (s : ByteArray) (a e f : Int) {l : List UInt8} {a' e' f' : Int} (hs : s.size < 4611686018427387904) (h : Rd.ok (lst s) ⟨a, e, f⟩) (hr : rdText (lst s) ⟨a, e, f⟩ = (l, ⟨a', e', f'⟩)) : Ev (fun k => wire_Reader_Text.f k s a e f) (arr l, s, a', e', f') := by
  have := wire_Reader_Text.ev s ⟨a, e, f⟩ hs h
  rw [hr] at this
  exact this
theorem wire_Text.ev (s : ByteArray) (hs : s.size < 4611686018427387904) : Ev (fun k => wire_Text.f k s) (arr (text (lst s))) := by
  unfold wire_Text.f
  refine Ev.bind (varint_Put.ev (s.size : Int)) ?_
  have h1 := put_len (s.size : Int)
  refine evYes (by rw [size_arr]; omega) ?_
  have e : arr (put (s.size : Int)) ++ s = arr (text (lst s)) := by
    apply lst_inj
    rw [lst_append, lst_arr, lst_arr]
    unfold text
    rw [lst_length]
  rw [e]
  exact Ev.now _
theorem rd_drop {l : List Int} {i : Nat} (h : i < l.length) : l.drop i = rd l i :: l.drop (i + 1) := by
  rw [List.drop_eq_getElem_cons h]
  congr 1
  simp [rd, h]
theorem wire_Nums.l0_ev (l : List Int) (hl : l.length ≤ 1000000000000) (d : Nat) : ∀ (i : Nat) (acc : List UInt8), i + d = l.length → acc.length ≤ 9 * i →
    Ev (fun k => wire_Nums.l0 k l (arr acc) (i : Int)) (arr (((numsO (l.drop i)).map (acc ++ ·)).getD [])) := by
  induction d with
  | zero =>
    intro i acc hi ha
    refine Ev.step (fun k => wire_Nums.l0.eq_2 ..) ?_
    refine evNo (by omega) ?_
    rw [List.drop_eq_nil_of_le (by omega)]
    simp [numsO]
    exact Ev.now _
  | succ d ih =>
    intro i acc hi ha
    refine Ev.step (fun k => wire_Nums.l0.eq_2 ..) ?_
    refine evYes (by omega) (evYes (by omega) ?_)
    refine Ev.bind (varint_Put.ev _) ?_
    rw [rd_drop (show i < l.length by omega)]
    simp only [toList_lst, lst_arr, numsO]
    by_cases c : put (rd l i) = []
    · simp only [if_pos c]
      exact Ev.now _
    · simp only [if_neg c]
      have hp := put_len (rd l i)
      refine evYes (by rw [size_arr, size_arr]; omega) ?_
      have a4 : (i : Int) + 1 = ((i + 1 : Nat) : Int) ∧ (i : Int) + 1 < 9223372036854775808 := by omega
      simp only [arr_append, wrap64_nat' a4.1 a4.2]
      have h2 := ih (i + 1) (acc ++ put (rd l i)) (by omega) (by rw [List.length_append]; omega)
      have e : ((numsO (l.drop (i + 1))).map (put (rd l i) ++ ·)).map (acc ++ ·) = (numsO (l.drop (i + 1))).map ((acc ++ put (rd l i)) ++ ·) := by
        rw [Option.map_map]
        congr 1
        funext x
        simp
      rw [e]
      exact h2
theorem wire_Nums.ev (l : List Int) (hl : l.length ≤ 1000000000000) : Ev (fun k => wire_Nums.f k l) (arr (numsL l)) := by
  have h := wire_Nums.l0_ev l hl l.length 0 [] (by omega) (by simp)
  have e : ((numsO (l.drop 0)).map (([] : List UInt8) ++ ·)).getD [] = numsL l := by
    unfold numsL
    cases h : numsO l <;> simp [h]
  rw [e] at h
  exact h
end Go.Proofs.Ythechcflnkofgaa.Q
