/- THE STAGE'S THEOREM: events that may be, one behind the other, are decoded as they were, each at the place behind the one ahead; cut off anywhere the one that is cut is too short; what is decoded may be, and its bytes are just those that stood there. For every input. -/
import Derived.Test.YthechcflnkofgaaQx15
import Derived.Test.YthechcflnkofgaaEvC
set_option linter.unusedVariables false
set_option linter.unusedSimpArgs false
namespace Go.Proofs.Ythechcflnkofgaa.Pure
open Go Go.RowKit Go.Proofs.Ythechcflnkofgaa.Q Go.Proofs.YthechcflnkofgaaW.PrintWords Go.Proofs.YthechcflnkofgaaW.PrintLast Go.Proofs.YthechcflnkofgaaW.PrintMore ShCore EvA EvB EvC
section
variable {l : List ES} (h60 : l.length ≤ 60) (hsm : ∀ e ∈ l, e.f2.length ≤ 20 ∧ e.f3.size ≤ 300) (hwf : ∀ e ∈ l, (Lit.int .i64 e.f0).wf = true) (cut : Int)
include hsm
theorem off_small (i : Nat) : (off encE l i).length ≤ 700 * i := off_len encE l 700 (fun e he => by have := enc_len e; have := hsm e he; omega) i
include h60
theorem back_l1 (hm : ∀ e ∈ l, mayE e.f0 e.f1 e.f2 e.f3 = true) : ∀ (d i : Nat), i + d = l.length → Ev (fun k => shuttlecocklaw04_EventBack.l1 k l cut (arr (l.flatMap encE)) ((off encE l i).length : Int) i) true
  | 0, i, hi => by
    refine Ev.step (fun k => shuttlecocklaw04_EventBack.l1.eq_2 ..) (evNo (by omega) (evC ?_))
    rw [show i = l.length by omega, off_all, size_arr]
    simp
  | d + 1, i, hi => by
    have h : i < l.length := by omega
    have hmem := List.getElem_mem h
    have ih := back_l1 hm d (i + 1) (by omega)
    have hT : (l.flatMap encE).length ≤ 42000 := by
      have := off_small hsm l.length
      rw [off_all] at this
      omega
    have hs3 := hsm _ hmem
    have hme := hm _ hmem
    have hsp := off_split encE l i l[i] (List.getElem?_eq_getElem h)
    have hsu := off_succ encE l i l[i] (List.getElem?_eq_getElem h)
    have hlen1 : (off encE l (i + 1)).length = (off encE l i).length + (encE l[i]).length := by rw [hsu, List.length_append]
    have hlenT := congrArg List.length hsp
    rw [List.length_append, List.length_append] at hlenT
    have hd := Decode.ev (arr (l.flatMap encE)) ((off encE l i).length : Int) (by rw [size_arr]; omega)
    rw [lst_arr, hsp, decT_enc _ _ l[i] hme (by omega), ← hlen1, ← hsp] at hd
    have next : Ev (fun k => shuttlecocklaw04_EventBack.l1 k l cut (arr (l.flatMap encE)) ((off encE l (i + 1)).length : Int) (wrap64 ((i : Int) + 1))) true := by
      rw [nxt (by omega)]
      exact ih
    refine Ev.step (fun k => shuttlecocklaw04_EventBack.l1.eq_2 ..) (evYes (by omega) (Ev.bind hd (evYes rfl (evYes (by omega) ?_))))
    rw [rdE h]
    refine Ev.bind (Same.refl l[i] l[i] rfl (by omega)) ?_
    refine Ev.step (fun k => shuttlecocklaw04_EventBack.j4.eq_2 ..) (evNo (by simp) ?_)
    by_cases c1 : cut ≥ ((off encE l i).length : Int)
    · refine evYes c1 ?_
      by_cases c2 : cut < ((off encE l (i + 1)).length : Int)
      · simp only
        rw [decide_eq_true c2]
        refine Ev.step (fun k => shuttlecocklaw04_EventBack.j5.eq_2 ..) (evYes rfl (evYes (by omega) (evYes (by rw [size_arr]; omega) ?_)))
        obtain ⟨q, rfl⟩ : ∃ q : Nat, cut = q := ⟨cut.toNat, by omega⟩
        have e1 : lst ((arr (l.flatMap encE)).extract 0 ((q : Int)).toNat) = off encE l i ++ (encE l[i]).take (q - (off encE l i).length) := by
          rw [lst_extract, lst_arr, List.drop_zero, Int.toNat_natCast, Nat.sub_zero, hsp, take_out _ _ _ _ (by omega) (by omega)]
        have hd2 := Decode.ev ((arr (l.flatMap encE)).extract 0 ((q : Int)).toNat) ((off encE l i).length : Int) (by rw [← lst_length, e1, List.length_append, List.length_take]; omega)
        rw [e1, decT_cut _ _ _ hme (by omega) (by omega)] at hd2
        exact Ev.bind hd2 (evYes rfl next)
      · simp only
        rw [decide_eq_false c2]
        exact Ev.step (fun k => shuttlecocklaw04_EventBack.j5.eq_2 ..) (evNo (by simp) next)
    · refine evNo c1 ?_
      exact Ev.step (fun k => shuttlecocklaw04_EventBack.j5.eq_2 ..) (evNo (by simp) next)
include hwf
theorem back_l0 : ∀ (d i : Nat), i + d = l.length → (∀ e ∈ l.take i, mayE e.f0 e.f1 e.f2 e.f3 = true) → Ev (fun k => shuttlecocklaw04_EventBack.l0 k l cut (arr (off encE l i)) i) true
  | 0, i, hi, hm => by
    refine Ev.step (fun k => shuttlecocklaw04_EventBack.l0.eq_2 ..) (evNo (by omega) ?_)
    rw [List.take_of_length_le (by omega)] at hm
    rw [show i = l.length by omega, off_all]
    have := back_l1 h60 hsm cut hm l.length 0 (by omega)
    rw [off_zero] at this
    exact this
  | d + 1, i, hi, hm => by
    have h : i < l.length := by omega
    have hmem := List.getElem_mem h
    have hs3 := hsm _ hmem
    have hoff := off_small hsm i
    have henc := enc_len l[i]
    have hE := Encode.ev l[i] (hwf _ hmem) (by omega)
    refine Ev.step (fun k => shuttlecocklaw04_EventBack.l0.eq_2 ..) (evYes (by omega) (evYes (by omega) ?_))
    rw [rdE h]
    refine Ev.bind (evC (may_f (hwf _ hmem) ..)) ?_
    cases hme : mayE l[i].f0 l[i].f1 l[i].f2 l[i].f3 with
    | true =>
      refine evYes rfl (Ev.bind hE (evYes (by rw [size_arr, size_arr]; omega) ?_))
      have ih := back_l0 d (i + 1) (by omega) (fun e he => by
        rw [List.take_succ_eq_append_getElem h, List.mem_append, List.mem_singleton] at he
        exact he.elim (hm e) (fun e1 => e1 ▸ hme))
      rw [arr_append, ← off_succ encE l i l[i] (List.getElem?_eq_getElem h), nxt (by omega)]
      exact ih
    | false =>
      refine evNo (by simp) (Ev.bind hE (evC ?_))
      have : encE l[i] = [] := by unfold encE; rw [if_neg (by rw [hme]; simp)]
      rw [this, toList_lst, lst_arr]
      rfl
end
theorem EventBack : shuttlecocklaw04_EventBack.Pure := by
  intro l cut t hl hcut ht
  refine Ev.rounds (g := fun k => shuttlecocklaw04_EventBack.f k l cut t) ?_
  have out : Ev (fun k => shuttlecocklaw04_EventBack.j0 k l cut t true) true :=
    Ev.step (fun k => shuttlecocklaw04_EventBack.j0.eq_2 ..) (evYes rfl (Ev.bind ev_fixed (Ev.now _)))
  unfold shuttlecocklaw04_EventBack.f
  refine Ev.bind ev_fixed (evYes rfl ?_)
  have hlm : l.length ≤ 9223372036854775807 := Nat.le_trans hl.2 (by decide)
  refine Ev.bind (Short.ev l hlm) ?_
  cases hs : shortB l with
  | false => exact evNo (by simp) out
  | true =>
    refine evYes rfl ?_
    simp only [shortB, shortE, Bool.and_eq_true, List.all_eq_true, decide_eq_true_eq] at hs
    obtain ⟨hsm, h60⟩ := hs
    by_cases c : (t.size : Int) > 5000
    · rw [decide_eq_true c]
      exact out
    rw [decide_eq_false c]
    have main : Ev (fun k => shuttlecocklaw04_EventBack.j1 k l cut false) true := by
      refine Ev.step (fun k => shuttlecocklaw04_EventBack.j1.eq_2 ..) (evNo (by simp) ?_)
      have := back_l0 h60 hsm (fun e he => (hl.1 e he).1) cut l.length 0 (by omega) (by simp)
      rw [off_zero] at this
      exact this
    refine Ev.step (fun k => shuttlecocklaw04_EventBack.j0.eq_2 ..) (evNo (by simp) (Ev.bind (Decode.ev t 0 (by omega)) ?_))
    have hlt := lst_length t
    unfold decT
    rw [if_neg (by omega), show (0 : Int).toNat = 0 from rfl, List.drop_zero]
    by_cases h0 : (decS (lst t)).2.2 = 0
    · obtain ⟨b1, b2, b3, b4, b5⟩ := decS_back _ h0
      have hw := dec_wf h0
      rw [if_pos h0]
      rw [hlt] at b3
      refine evYes rfl (Ev.bind (evC (may_f hw ..)) (evYes b1 (evNo (by simp only; omega) (Ev.bind (Encode.ev _ hw b5) ?_))))
      have emn : mn ((0 : Int) + (((decS (lst t)).2.1 : Nat) : Int)) (t.size : Int) = (((decS (lst t)).2.1 : Nat) : Int) := by
        unfold mn
        split <;> omega
      simp only [emn]
      refine evYes (by omega) (evYes (by omega) ?_)
      rw [toList_lst, toList_lst, lst_arr, lst_extract, List.drop_zero, Int.toNat_natCast, Nat.sub_zero, b2]
      simp only [bne_self_eq_false]
      exact main
    · rw [if_neg h0]
      exact evNo (by simp only; omega) main
end Go.Proofs.Ythechcflnkofgaa.Pure
