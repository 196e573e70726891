/- An event's bytes are one for its kind, and those of its numbers, or its text; another Dt changes nothing but its own bytes. For every input. -/
import Derived.Test.YthechcflnkofgaaQx9
import Derived.Test.YthechcflnkofgaaQx8
import Derived.Test.YthechcflnkofgaaEvF
import Derived.Test.YthechcflnkofgaaEv
set_option linter.unusedVariables false
set_option linter.unusedSimpArgs false
namespace Go.Proofs.Ythechcflnkofgaa.Pure
open Go Go.RowKit Go.Proofs.Ythechcflnkofgaa.Q Go.Proofs.YthechcflnkofgaaW.PrintWords Go.Proofs.YthechcflnkofgaaW.PrintLast Go.Proofs.YthechcflnkofgaaW.PrintMore ShCore EvA EvB EvC
theorem Len.ev (n : Int) : Ev (fun k => shuttlecockref01_Len.f k n) (((put n).length : Nat) : Int) := by
  unfold shuttlecockref01_Len.f
  refine Ev.bind (shuttlecockref01_Put.ev n) (evC ?_)
  rw [size_arr]
def tailE (e : ES) : List UInt8 := if expE e.f0 = true then text (lst e.f3) else e.f2.flatMap put
theorem enc_may {e : ES} (h : mayE e.f0 e.f1 e.f2 e.f3 = true) : encE e = UInt8.ofNat e.f0.toNat :: (put e.f1 ++ tailE e) := by
  unfold encE
  rw [if_pos h]
  rfl
theorem arr_tail (c : UInt8) (a b : List UInt8) : ((arr (c :: (a ++ b))).extract ((1 + a.length : Nat) : Int).toNat (arr (c :: (a ++ b))).size).toList = b := by
  rw [toList_lst, lst_extract, lst_arr, size_arr, Int.toNat_natCast, show 1 + a.length = a.length + 1 by omega, List.drop_succ_cons, List.drop_left, List.take_of_length_le]
  simp only [List.length_cons, List.length_append]
  omega
theorem flat_len (l : List Int) : (l.flatMap put).length ≤ 9 * l.length := by
  induction l with
  | nil => simp
  | cons a l ih =>
    have := put_len a
    rw [List.flatMap_cons, List.length_append, List.length_cons]
    omega
section
variable {e : ES} (hw : (Lit.int .i64 e.f0).wf = true) (hm : mayE e.f0 e.f1 e.f2 e.f3 = true) (h20 : e.f2.length ≤ 20) (h300 : e.f3.size ≤ 300) (dt : Int) (hdt : 0 ≤ dt ∧ dt < 4611686018427387904)
include hw hm h20 h300 hdt
theorem len_j2 : Ev (fun k => shuttlecocklaw04_EventLen.j2 k dt (arr (encE e)) ((encE e).length : Int) e.f0 e.f1 e.f2 e.f3) true := by
  have hm' : mayE e.f0 dt e.f2 e.f3 = true := by
    rw [mayE_iff] at hm ⊢
    exact ⟨(fitsE_iff _).2 hdt, hm.2⟩
  have E1 := Encode.ev ⟨e.f0, dt, e.f2, e.f3⟩ hw (by simp only; omega)
  have e1 := enc_may hm
  have e2 := enc_may (e := ⟨e.f0, dt, e.f2, e.f3⟩) hm'
  have p1 := put_len e.f1
  have p2 := put_len dt
  have hl1 := enc_len e
  have hl2 := enc_len ⟨e.f0, dt, e.f2, e.f3⟩
  simp only at hl2
  have et : tailE (⟨e.f0, dt, e.f2, e.f3⟩ : ES) = tailE e := rfl
  rw [et] at e2
  simp only at e2
  have l1 : (encE e).length = 1 + (put e.f1).length + (tailE e).length := by rw [e1, List.length_cons, List.length_append]; omega
  have l2 : (encE ⟨e.f0, dt, e.f2, e.f3⟩).length = 1 + (put dt).length + (tailE e).length := by rw [e2, List.length_cons, List.length_append]; omega
  have hb1 : bt (arr (encE ⟨e.f0, dt, e.f2, e.f3⟩)) 0 = bt (arr (encE e)) 0 := by rw [e1, e2, bt_zero, bt_zero]
  have ht1 := arr_tail (UInt8.ofNat e.f0.toNat) (put e.f1) (tailE e)
  have ht2 := arr_tail (UInt8.ofNat e.f0.toNat) (put dt) (tailE e)
  rw [← e1] at ht1
  rw [← e2] at ht2
  clear e1 e2 et
  generalize encE ⟨e.f0, dt, e.f2, e.f3⟩ = B at *
  generalize encE e = A at *
  simp only at E1
  refine Ev.step (fun k => shuttlecocklaw04_EventLen.j2.eq_2 ..) (Ev.bind E1 (evYes (by rw [size_arr]) (Ev.bind (Len.ev e.f1) (Ev.bind (Len.ev dt) ?_))))
  rw [show wrap64 ((A.length : Int) - (((put e.f1).length : Nat) : Int)) = ((1 + (tailE e).length : Nat) : Int) by rw [wrap64_of (by omega) (by omega)]; omega, show wrap64 (((1 + (tailE e).length : Nat) : Int) + (((put dt).length : Nat) : Int)) = (B.length : Int) by rw [wrap64_of (by omega) (by omega)]; omega]
  refine evYes (by rw [size_arr]) (evYes (by rw [size_arr]; omega) (evYes (by rw [size_arr]; omega) (evYes hb1 (Ev.bind (Len.ev dt) ?_))))
  rw [show wrap64 (1 + (((put dt).length : Nat) : Int)) = ((1 + (put dt).length : Nat) : Int) by rw [wrap64_of (by omega) (by omega)]; omega]
  refine evYes (by omega) (evYes (by rw [size_arr]; omega) (Ev.bind (Len.ev e.f1) ?_))
  rw [show wrap64 (1 + (((put e.f1).length : Nat) : Int)) = ((1 + (put e.f1).length : Nat) : Int) by rw [wrap64_of (by omega) (by omega)]; omega]
  refine evYes (by omega) (evYes (by rw [size_arr]; omega) (evC ?_))
  rw [ht1, ht2]
  simp
theorem len_l0 : ∀ (d i : Nat), i + d = e.f2.length → Ev (fun k => shuttlecocklaw04_EventLen.l0 k dt (arr (encE e)) ((1 + (put e.f1).length + ((e.f2.take i).flatMap put).length : Nat) : Int) i e.f0 e.f1 e.f2 e.f3) true
  | 0, i, hi => by
    have hj := len_j2 hw hm h20 h300 dt hdt
    have e1 := enc_may hm
    have l1 : (encE e).length = 1 + (put e.f1).length + (tailE e).length := by rw [e1, List.length_cons, List.length_append]; omega
    have p1 := put_len e.f1
    have hk := mayE_kind hm
    have hcs := ((mayE_iff ..).1 hm).2
    rw [List.take_of_length_le (by omega)]
    have hfl := flat_len e.f2
    refine Ev.step (fun k => shuttlecocklaw04_EventLen.l0.eq_2 ..) (evNo (by omega) ?_)
    by_cases hx : expE e.f0 = true
    · have hl0 : e.f2 = [] := hcs.elim (fun h => h.2) (fun h => absurd (hx.symm.trans h.1) (by simp))
      have p2 := put_len (e.f3.size : Int)
      have h128 := (expE_iff _).1 hx
      refine evYes (by omega) (Ev.bind (Len.ev _) ?_)
      have et : tailE e = text (lst e.f3) := by unfold tailE; rw [if_pos hx]
      have hlen : (encE e).length = 1 + (put e.f1).length + ((put (e.f3.size : Int)).length + e.f3.size) := by
        rw [l1, et]
        unfold text
        rw [List.length_append, lst_length]
      have hz : (e.f2.flatMap put).length = 0 := by rw [hl0]; rfl
      rw [show wrap64 ((((put (e.f3.size : Int)).length : Nat) : Int) + (e.f3.size : Int)) = (((put (e.f3.size : Int)).length + e.f3.size : Nat) : Int) by rw [wrap64_of (by omega) (by omega)]; omega, show wrap64 (((1 + (put e.f1).length + (e.f2.flatMap put).length : Nat) : Int) + (((put (e.f3.size : Int)).length + e.f3.size : Nat) : Int)) = ((encE e).length : Int) by rw [wrap64_of (by omega) (by omega)]; omega]
      exact hj
    · have hkn := (hcs.resolve_left (fun h => hx h.1)).2.1
      rw [knownB_iff] at hkn
      refine evNo (by omega) ?_
      have et : tailE e = e.f2.flatMap put := by unfold tailE; rw [if_neg hx]
      rw [← et, ← l1]
      exact hj
  | d + 1, i, hi => by
    have h : i < e.f2.length := by omega
    have ih := len_l0 d (i + 1) (by omega)
    have p1 := put_len e.f1
    have p2 := put_len e.f2[i]
    have hfl := flat_len (e.f2.take i)
    rw [List.length_take] at hfl
    refine Ev.step (fun k => shuttlecocklaw04_EventLen.l0.eq_2 ..) (evYes (by omega) (evYes (by omega) ?_))
    rw [rdI h]
    refine Ev.bind (Len.ev _) ?_
    have hs : (e.f2.take (i + 1)).flatMap put = (e.f2.take i).flatMap put ++ put e.f2[i] := by rw [List.take_succ_eq_append_getElem h, List.flatMap_append]; simp
    rw [hs, List.length_append] at ih
    rw [show wrap64 (((1 + (put e.f1).length + ((e.f2.take i).flatMap put).length : Nat) : Int) + (((put e.f2[i]).length : Nat) : Int)) = ((1 + (put e.f1).length + (((e.f2.take i).flatMap put).length + (put e.f2[i]).length) : Nat) : Int) by rw [wrap64_of (by omega) (by omega)]; omega, nxt (by omega)]
    exact ih
end
theorem EventLen : shuttlecocklaw04_EventLen.Pure := by
  intro e dt h0 hdt
  refine Ev.rounds (g := fun k => shuttlecocklaw04_EventLen.f k e.f0 e.f1 e.f2 e.f3 dt) ?_
  have out : Ev (fun k => shuttlecocklaw04_EventLen.j0 k dt (arr (encE e)) true e.f0 e.f1 e.f2 e.f3) true :=
    Ev.step (fun k => shuttlecocklaw04_EventLen.j0.eq_2 ..) (evYes rfl (Ev.bind ev_fixed (Ev.now _)))
  unfold shuttlecocklaw04_EventLen.f
  refine Ev.bind (Encode.ev e h0.1 (by have := h0.2.2.2; omega)) (Ev.bind ev_fixed (evYes rfl (Ev.bind (Short.ev [e] (by simp)) ?_)))
  cases hs : shortB [e] with
  | false => exact evNo (by simp) out
  | true =>
    refine evYes rfl ?_
    simp only [shortB, shortE, List.all_cons, List.all_nil, Bool.and_true, Bool.and_eq_true, decide_eq_true_eq] at hs
    obtain ⟨⟨s1, s2⟩, _⟩ := hs
    by_cases c0 : (arr (encE e)).toList = ([] : List UInt8)
    · exact evYes c0 out
    refine evNo c0 ?_
    by_cases c1 : dt < 0
    · exact evYes c1 out
    refine evNo c1 ?_
    by_cases c2 : dt ≥ 4611686018427387904
    · rw [decide_eq_true c2]
      exact out
    rw [decide_eq_false c2]
    have hm : mayE e.f0 e.f1 e.f2 e.f3 = true := by
      cases h : mayE e.f0 e.f1 e.f2 e.f3 with
      | true => rfl
      | false =>
        refine absurd ?_ c0
        unfold encE
        rw [if_neg (by rw [h]; simp), toList_lst, lst_arr]
    have p1 := put_len e.f1
    refine Ev.step (fun k => shuttlecocklaw04_EventLen.j0.eq_2 ..) (evNo (by simp) (Ev.bind (Len.ev e.f1) ?_))
    have h := len_l0 h0.1 hm s1 s2 dt ⟨by omega, by omega⟩ e.f2.length 0 (by omega)
    rw [List.take_zero, List.flatMap_nil, List.length_nil, Nat.add_zero] at h
    have w1 : wrap64 (1 + (((put e.f1).length : Nat) : Int)) = ((1 + (put e.f1).length : Nat) : Int) := by rw [wrap64_of (by omega) (by omega)]; omega
    rw [w1]
    exact h
end Go.Proofs.Ythechcflnkofgaa.Pure
