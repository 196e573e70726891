/- Events held against each other, short events, the calls that the document fixes. For every input. -/
import Derived.Test.YthechcflnkofgaaQx1
import Derived.Test.YthechcflnkofgaaQx7
import Derived.Test.YthechcflnkofgaaQx8
import Derived.Test.YthechcflnkofgaaEvB
set_option linter.unusedVariables false
set_option linter.unusedSimpArgs false
namespace Go.Proofs.Ythechcflnkofgaa.EvC
open Go Go.RowKit Go.Proofs.Ythechcflnkofgaa.Q Go.Proofs.YthechcflnkofgaaW.PrintWords Go.Proofs.YthechcflnkofgaaW.PrintLast Go.Proofs.YthechcflnkofgaaW.PrintMore ShCore EvA EvB

theorem rdE {l : List ES} {i : Nat} (h : i < l.length) : rd_T24 l (i : Int) = l[i] := by
  unfold rd_T24
  rw [Int.toNat_natCast, List.getD_eq_getElem?_getD, List.getElem?_eq_getElem h]
  rfl
theorem nxt {i : Nat} (h : i < 9223372036854775807) : wrap64 ((i : Int) + 1) = ((i + 1 : Nat) : Int) := by rw [wrap64_of (by omega) (by omega)]; omega
def shortE (e : ES) : Bool := decide (e.f2.length ≤ 20) && decide (e.f3.size ≤ 300)
def shortB (l : List ES) : Bool := l.all shortE && decide (l.length ≤ 60)
theorem Short.l0 (l : List ES) (hl : l.length ≤ 9223372036854775807) : ∀ (d i : Nat), i + d = l.length → Ev (fun k => shuttlecockref04_Short.l0 k l i) ((l.drop i).all shortE && decide (l.length ≤ 60))
  | 0, i, hi => by
    refine Ev.step (fun k => shuttlecockref04_Short.l0.eq_2 ..) (evNo (by omega) (evC ?_))
    rw [List.drop_eq_nil_of_le (by omega)]
    simp only [List.all_nil, Bool.true_and, Option.some.injEq, decide_eq_decide]
    omega
  | d + 1, i, hi => by
    have h : i < l.length := by omega
    have ih := Short.l0 l hl d (i + 1) (by omega)
    refine Ev.step (fun k => shuttlecockref04_Short.l0.eq_2 ..) (evYes (by omega) (evYes (by omega) ?_))
    rw [List.drop_eq_getElem_cons h, List.all_cons, rdE h]
    unfold shortE
    by_cases c1 : ((l[i].f2.length : Int) > 20)
    · refine evYes c1 (evC ?_)
      rw [decide_eq_false (show ¬ l[i].f2.length ≤ 20 by omega)]
      rfl
    · refine evNo c1 ?_
      rw [decide_eq_true (show l[i].f2.length ≤ 20 by omega)]
      by_cases c2 : ((l[i].f3.size : Int) > 300)
      · refine evYes c2 (evC ?_)
        rw [decide_eq_false (show ¬ l[i].f3.size ≤ 300 by omega)]
        rfl
      · refine evNo c2 ?_
        rw [decide_eq_true (show l[i].f3.size ≤ 300 by omega), nxt (by omega)]
        simp only [Bool.true_and, Bool.and_self]
        exact ih
theorem Short.ev (l : List ES) (hl : l.length ≤ 9223372036854775807) : Ev (fun k => shuttlecockref04_Short.f k l) (shortB l) := by
  have h := Short.l0 l hl l.length 0 (by omega)
  rw [List.drop_zero] at h
  exact h
theorem rdI {l : List Int} {i : Nat} (h : i < l.length) : rd l (i : Int) = l[i] := by
  unfold rd
  rw [Int.toNat_natCast, List.getD_eq_getElem?_getD, List.getElem?_eq_getElem h]
  rfl
theorem Ints.l0 (l m : List Int) (hm : l.length = m.length) (hl : l.length ≤ 9223372036854775807) : ∀ (d i : Nat), i + d = l.length → Ev (fun k => shuttlecockref01_Ints.l0 k l m i) (decide (l.drop i = m.drop i))
  | 0, i, hi => by
    refine Ev.step (fun k => shuttlecockref01_Ints.l0.eq_2 ..) (evNo (by omega) (evC ?_))
    rw [List.drop_eq_nil_of_le (by omega), List.drop_eq_nil_of_le (by omega)]
    rfl
  | d + 1, i, hi => by
    have h : i < l.length := by omega
    have h' : i < m.length := by omega
    have ih := Ints.l0 l m hm hl d (i + 1) (by omega)
    refine Ev.step (fun k => shuttlecockref01_Ints.l0.eq_2 ..) (evYes (by omega) (evYes (by omega) (evYes (by omega) ?_)))
    rw [List.drop_eq_getElem_cons h, List.drop_eq_getElem_cons h', rdI h, rdI h', nxt (by omega)]
    by_cases c : l[i] = m[i]
    · refine evYes c ?_
      simp only [c, List.cons.injEq, true_and]
      exact ih
    · refine evNo c (evC ?_)
      rw [decide_eq_false]
      intro e
      exact c (List.cons.inj e).1
theorem Ints.ev (l m : List Int) (hl : l.length ≤ 9223372036854775807) : Ev (fun k => shuttlecockref01_Ints.f k l m) (decide (l = m)) := by
  unfold shuttlecockref01_Ints.f
  by_cases c : (l.length : Int) = (m.length : Int)
  · refine evYes c ?_
    exact Ints.l0 l m (by omega) hl l.length 0 (by omega)
  · refine evNo c (evC ?_)
    rw [decide_eq_false]
    intro e
    rw [e] at c
    exact c rfl
theorem Same.ev (a b : ES) (hl : a.f2.length ≤ 9223372036854775807) : Ev (fun k => shuttlecockref04_Same.f k a.f0 a.f1 a.f2 a.f3 b.f0 b.f1 b.f2 b.f3) (decide (a.f0 = b.f0 ∧ a.f1 = b.f1 ∧ a.f2 = b.f2 ∧ lst a.f3 = lst b.f3)) := by
  unfold shuttlecockref04_Same.f
  by_cases c0 : a.f0 = b.f0
  · refine evYes c0 ?_
    by_cases c1 : a.f1 = b.f1
    · refine evYes c1 ?_
      refine Ev.bind (Ints.ev a.f2 b.f2 hl) ?_
      by_cases c2 : a.f2 = b.f2
      · refine evYes (decide_eq_true c2) (evC ?_)
        rw [toList_lst, toList_lst]
        by_cases c3 : lst a.f3 = lst b.f3
        · rw [decide_eq_true ⟨c0, c1, c2, c3⟩, c3]
          simp
        · rw [decide_eq_false (fun h => c3 h.2.2.2)]
          simpa using c3
      · exact evNo (by simpa using c2) (evC (by rw [decide_eq_false (fun h => c2 h.2.2.1)]))
    · exact evNo c1 (evC (by rw [decide_eq_false (fun h => c1 h.2.1)]))
  · exact evNo c0 (evC (by rw [decide_eq_false (fun h => c0 h.1)]))
theorem es_ext {a b : ES} (h0 : a.f0 = b.f0) (h1 : a.f1 = b.f1) (h2 : a.f2 = b.f2) (h3 : lst a.f3 = lst b.f3) : a = b := by
  cases a
  cases b
  simp only at h0 h1 h2 h3
  rw [h0, h1, h2, lst_inj h3]
theorem Same.refl (a b : ES) (h : a = b) (hl : a.f2.length ≤ 9223372036854775807) : Ev (fun k => shuttlecockref04_Same.f k a.f0 a.f1 a.f2 a.f3 b.f0 b.f1 b.f2 b.f3) true := by
  have := Same.ev a b hl
  rw [decide_eq_true ⟨by rw [h], by rw [h], by rw [h], by rw [h]⟩] at this
  exact this
theorem ev_fixed : Ev (fun k => shuttlecocklaw04_fixed.f k) true := Ev.of shuttlecocklaw04_fixed.mono (k := 40) (by decide +kernel)
/-! ### told back -/
theorem decT_enc (pre rest : List UInt8) (e : ES) (h : mayE e.f0 e.f1 e.f2 e.f3 = true) (ht : e.f3.size < 4611686018427387904) : decT (pre ++ encE e ++ rest) (pre.length : Int) = (e.f0, e.f1, e.f2, e.f3, ((pre.length + (encE e).length : Nat) : Int), 0) := by
  unfold decT
  rw [if_neg (by simp only [List.length_append]; omega), Int.toNat_natCast, List.append_assoc, List.drop_left, decS_enc e rest h ht]
  simp
theorem decT_cut (pre : List UInt8) (e : ES) (c : Nat) (h : mayE e.f0 e.f1 e.f2 e.f3 = true) (ht : e.f3.size < 4611686018427387904) (hc : c < (encE e).length) : decT (pre ++ (encE e).take c) (pre.length : Int) = (0, 0, [], ⟨#[]⟩, 0, 10) := by
  unfold decT
  rw [if_neg (by simp only [List.length_append]; omega), Int.toNat_natCast, List.drop_left, decS_cut e c h ht hc]
  simp
theorem enc_inj {a b : ES} (ha : mayE a.f0 a.f1 a.f2 a.f3 = true) (hb : mayE b.f0 b.f1 b.f2 b.f3 = true) (hta : a.f3.size < 4611686018427387904) (htb : b.f3.size < 4611686018427387904) (h : encE a = encE b) : a = b := by
  have h1 := decS_enc a [] ha hta
  have h2 := decS_enc b [] hb htb
  rw [h, h2] at h1
  exact (congrArg Prod.fst h1).symm
theorem dec_wf {u : List UInt8} (h : (decS u).2.2 = 0) : (Lit.int .i64 (decS u).1.f0).wf = true := by
  have hk := mayE_kind (decS_back u h).1
  rw [knownB_iff, expE_iff] at hk
  exact wf_small (by omega) (by omega)
theorem enc_len (e : ES) : (encE e).length ≤ 1 + 9 + (e.f3.size + 9) + 9 * e.f2.length := by
  unfold encE
  split
  · unfold encL
    have h1 := put_len e.f1
    have h2 := text_len (lst e.f3)
    rw [lst_length] at h2
    rw [List.length_cons, List.length_append]
    split
    · omega
    · have : ∀ l : List Int, (l.flatMap put).length ≤ 9 * l.length := fun l => by
        induction l with
        | nil => simp
        | cons a l ih =>
          have := put_len a
          rw [List.flatMap_cons, List.length_append, List.length_cons]
          omega
      have := this e.f2
      omega
  · simp
end Go.Proofs.Ythechcflnkofgaa.EvC
