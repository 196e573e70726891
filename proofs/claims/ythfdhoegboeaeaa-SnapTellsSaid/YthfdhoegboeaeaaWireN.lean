/- Numbers read and written by wire, by plain lists of bytes. For every input within the machine's sizes. -/
import Derived.Test.YthfdhoegboeaeaaQx4
import Derived.Test.YthfdhoegboeaeaaQx6
import Derived.Test.YthfdhoegboeaeaaVintPQ
import Derived.Test.YthfdhoegboeaeaaWire
namespace Go.Proofs.Ythfdhoegboeaeaa.Q
open Go Go.RowKit Go.Proofs.YthfdhoegboeaeaaW.PrintWords Go.Proofs.YthfdhoegboeaeaaW.PrintLast Go.Proofs.YthfdhoegboeaeaaW.PrintMore ShCore

theorem wire_Reader_Num.ev (s : ByteArray) (r : Rd) (hs : s.size < 4611686018427387904) :
    Ev (fun k => wire_Reader_Num.f k s r.a r.e r.f) ((rdNum (lst s) r).1, s, (rdNum (lst s) r).2.a, (rdNum (lst s) r).2.e, (rdNum (lst s) r).2.f) := by
  unfold wire_Reader_Num.f wire_Reader_ok.f rdNum
  simp only [Option.bind_some]
  by_cases c : r.e = 0
  · rw [if_pos c]
    refine evYes (by simpa using c) ?_
    refine Ev.bind (varint_Take.ev s r.a hs) ?_
    by_cases c2 : (takeL (lst s) r.a).2.2 = 0
    · simp only [if_pos c2]
      exact Ev.now _
    · simp only [if_neg c2]
      exact Ev.now _
  · rw [if_neg c]
    exact evNo (by simpa using c) (Ev.now _)
theorem wire_Reader_Done.eq (s : ByteArray) (r : Rd) : wire_Reader_Done.f s r.a r.e r.f = some (rdDone (lst s) r, s, r.a, r.e, r.f) := by
  unfold wire_Reader_Done.f rdDone
  rw [lst_length]
theorem rNum (s : ByteArray) (a e f : Int) {n : Int} {a' e' f' : Int} (hs : s.size < 4611686018427387904) (hr : rdNum (lst s) ⟨a, e, f⟩ = (n, ⟨a', e', f'⟩)) : Ev (fun k => wire_Reader_Num.f k s a e f) (n, s, a', e', f') := by
  have := wire_Reader_Num.ev s ⟨a, e, f⟩ hs
  rw [hr] at this
  exact this
theorem rDone (s : ByteArray) (a e f : Int) {b : Bool} (hr : rdDone (lst s) ⟨a, e, f⟩ = b) : wire_Reader_Done.f s a e f = some (b, s, a, e, f) := by
  have := wire_Reader_Done.eq s ⟨a, e, f⟩
  rw [hr] at this
  exact this
theorem rd_drop {l : List Int} {i : Nat} (h : i < l.length) : l.drop i = rd l i :: l.drop (i + 1) := by
  rw [List.drop_eq_getElem_cons h]
  congr 1
  simp [rd, h]
theorem wire_Nums.l0_ev (l : List Int) (hl : l.length ≤ 1000000000000) (d : Nat) : ∀ (i : Nat) (acc : List UInt8), i + d = l.length → acc.length ≤ 9 * i →
    Ev (fun k => wire_Nums.l0 k l (arr acc) (i : Int)) (arr (((numsO (l.drop i)).map (acc ++ ·)).getD [])) := by
  induction d with
  | zero =>
    intro i acc hi ha
    refine Ev.step (fun k => wire_Nums.l0.eq_2 ..) ?_
    refine evNo (by omega) ?_
    rw [List.drop_eq_nil_of_le (by omega)]
    simp [numsO]
    exact Ev.now _
  | succ d ih =>
    intro i acc hi ha
    refine Ev.step (fun k => wire_Nums.l0.eq_2 ..) ?_
    refine evYes (by omega) (evYes (by omega) ?_)
    refine Ev.bind (varint_Put.ev _) ?_
    rw [rd_drop (show i < l.length by omega)]
    simp only [toList_lst, lst_arr, numsO]
    by_cases c : put (rd l i) = []
    · simp only [if_pos c]
      exact Ev.now _
    · simp only [if_neg c]
      have hp := put_len (rd l i)
      refine evYes (by rw [size_arr, size_arr]; omega) ?_
      have a4 : (i : Int) + 1 = ((i + 1 : Nat) : Int) ∧ (i : Int) + 1 < 9223372036854775808 := by omega
      simp only [arr_append, wrap64_nat' a4.1 a4.2]
      have h2 := ih (i + 1) (acc ++ put (rd l i)) (by omega) (by rw [List.length_append]; omega)
      have e : ((numsO (l.drop (i + 1))).map (put (rd l i) ++ ·)).map (acc ++ ·) = (numsO (l.drop (i + 1))).map ((acc ++ put (rd l i)) ++ ·) := by
        rw [Option.map_map]
        congr 1
        funext x
        simp
      rw [e]
      exact h2
theorem wire_Nums.ev (l : List Int) (hl : l.length ≤ 1000000000000) : Ev (fun k => wire_Nums.f k l) (arr (numsL l)) := by
  have h := wire_Nums.l0_ev l hl l.length 0 [] (by omega) (by simp)
  have e : ((numsO (l.drop 0)).map (([] : List UInt8) ++ ·)).getD [] = numsL l := by
    unfold numsL
    cases h : numsO l <;> simp [h]
  rw [e] at h
  exact h
end Go.Proofs.Ythfdhoegboeaeaa.Q
