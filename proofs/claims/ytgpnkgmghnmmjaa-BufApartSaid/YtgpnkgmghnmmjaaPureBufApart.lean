/- Of two events put at one time the order counts, as far as they are unlike; the times are the same. -/
import Derived.Test.YtgpnkgmghnmmjaaQx20
import Derived.Test.YtgpnkgmghnmmjaaEv
import Derived.Test.YtgpnkgmghnmmjaaEvD
set_option linter.unusedVariables false
set_option linter.unusedSimpArgs false
namespace Go.Proofs.Ytgpnkgmghnmmjaa.Pure
open Go Go.RowKit Go.Proofs.Ytgpnkgmghnmmjaa.Q Go.Proofs.YtgpnkgmghnmmjaaW.PrintWords Go.Proofs.YtgpnkgmghnmmjaaW.PrintLast Go.Proofs.YtgpnkgmghnmmjaaW.PrintMore ShCore EvA EvB EvC EvD BatA BatM BufA BufB
theorem enc_swap {a b : ES} (ha : okE a) (hb : okE b) (h : encE a ++ encE b = encE b ++ encE a) : a = b := by
  have h1 := decS_enc a (encE b) ha.1 ha.2
  have h2 := decS_enc b (encE a) hb.1 hb.2
  rw [h, h2] at h1
  exact (congrArg Prod.fst h1).symm
theorem put_first (m t a : Int) (xs : List Int) (x : ByteArray) : putB m 0 0 ⟨#[]⟩ t a xs x = if fitsE t = true ∧ mayE a 0 xs x = true then (m, t, t, arr (encE ⟨a, 0, xs, x⟩), true) else noBuf := by
  unfold putB
  by_cases h : fitsE t = true
  · rw [if_pos h, if_pos (show lst (⟨#[]⟩ : ByteArray) = [] from rfl)]
    by_cases h2 : mayE a 0 xs x = true
    · rw [if_pos h2, if_pos ⟨h, h2⟩]
    · rw [if_neg h2, if_neg (fun h => h2 h.2)]
  · rw [if_neg h, if_neg (fun h' => h h'.1)]
theorem put_second {s : ByteArray} (hs : lst s ≠ []) (m t a : Int) (ht : fitsE t = true) (xs : List Int) (x : ByteArray) : putB m t t s t a xs x = if mayE a 0 xs x = true then (m, t, t, s ++ arr (encE ⟨a, 0, xs, x⟩), true) else noBuf := by
  unfold putB
  rw [if_pos ht, if_neg hs, if_neg (by omega), wrap_sub_self]
theorem BufApart : shuttlecocklaw19_BufApart.Pure := by
  rintro ⟨a, da, xs, x⟩ ⟨b, db, bs, y⟩ t h0 h1 ht
  simp only at h0 h1
  refine Ev.rounds (g := fun k => shuttlecocklaw19_BufApart.f k a da xs x b db bs y t) ?_
  unfold shuttlecocklaw19_BufApart.f
  refine Ev.bind ev_fixed19 (evYes rfl (Ev.bind (Short.ev [⟨a, da, xs, x⟩, ⟨b, db, bs, y⟩] (by simp)) ?_))
  cases hs : shortB [⟨a, da, xs, x⟩, ⟨b, db, bs, y⟩] with
  | false => exact Ev.step (fun k => shuttlecocklaw19_BufApart.j0.eq_2 ..) (evYes rfl (Ev.bind ev_fixed19 (Ev.now _)))
  | true =>
  simp only [shortB, shortE, Bool.and_eq_true, List.all_eq_true, decide_eq_true_eq, List.mem_cons, List.not_mem_nil, or_false, forall_eq_or_imp, forall_eq] at hs
  obtain ⟨⟨⟨sa1, sa2⟩, sb1, sb2⟩, _⟩ := hs
  refine Ev.step (fun k => shuttlecocklaw19_BufApart.j0.eq_2 ..) (evNo (by simp) ?_)
  have emp : (⟨#[]⟩ : ByteArray).size ≤ 1000000000000000 := by decide
  refine Ev.bind (putEv h0.1 da xs x (by omega) ⟨#[]⟩ emp t 1 0 0) ?_
  rw [put_first]
  by_cases ca : fitsE t = true ∧ mayE a 0 xs x = true
  · obtain ⟨hft, hma⟩ := ca
    have oka : okE ⟨a, 0, xs, x⟩ := ⟨hma, by simp only; omega⟩
    obtain ⟨q, u, hu⟩ := enc_ne oka
    have na : lst (arr (encE ⟨a, 0, xs, x⟩)) ≠ [] := by rw [lst_arr, hu]; simp
    have za := enc_lenM (e := ⟨a, 0, xs, x⟩) hma
    simp only at za
    rw [if_pos ⟨hft, hma⟩]
    refine Ev.bind (putEv h1.1 db bs y (by omega) (arr (encE ⟨a, 0, xs, x⟩)) (by rw [size_arr]; omega) t 1 t t) ?_
    rw [put_second na _ _ _ hft]
    by_cases cb : mayE b 0 bs y = true
    · have okb : okE ⟨b, 0, bs, y⟩ := ⟨cb, by simp only; omega⟩
      obtain ⟨q2, u2, hu2⟩ := enc_ne okb
      have nb : lst (arr (encE ⟨b, 0, bs, y⟩)) ≠ [] := by rw [lst_arr, hu2]; simp
      have zb := enc_lenM (e := ⟨b, 0, bs, y⟩) cb
      simp only at zb
      rw [if_pos cb]
      refine Ev.bind (putEv h1.1 db bs y (by omega) ⟨#[]⟩ emp t 1 0 0) ?_
      rw [put_first, if_pos ⟨hft, cb⟩]
      refine Ev.bind (putEv h0.1 da xs x (by omega) (arr (encE ⟨b, 0, bs, y⟩)) (by rw [size_arr]; omega) t 1 t t) ?_
      rw [put_second nb _ _ _ hft, if_pos hma]
      refine evYes rfl (evYes rfl (evYes rfl (evYes rfl (Ev.bind (Same.ev ⟨a, 0, xs, x⟩ ⟨b, 0, bs, y⟩ (by simp only; omega)) ?_))))
      refine evYes ?_ (evYes rfl (evC (by simp)))
      rw [toList_lst, toList_lst, lst_append, lst_append, lst_arr, lst_arr]
      by_cases e : (⟨a, 0, xs, x⟩ : ES) = ⟨b, 0, bs, y⟩
      · have e' := e
        simp only [S28.mk.injEq] at e
        obtain ⟨e1, _, e3, e4⟩ := e
        rw [decide_eq_true ⟨e1, rfl, e3, by rw [e4]⟩, e']
        simp
      · have hne : ¬ encE ⟨a, 0, xs, x⟩ ++ encE ⟨b, 0, bs, y⟩ = encE ⟨b, 0, bs, y⟩ ++ encE ⟨a, 0, xs, x⟩ := fun h => e (enc_swap oka okb h)
        have hd : ¬ (a = b ∧ (0 : Int) = 0 ∧ xs = bs ∧ lst x = lst y) := by
          rintro ⟨e1, _, e3, e4⟩
          exact e (es_ext e1 rfl e3 e4)
        rw [decide_eq_false hd]
        simp only [beq_self_eq_true, Bool.true_and, beq_eq_false_iff_ne.2 hne]
    · rw [if_neg cb]
      refine Ev.bind (putEv h1.1 db bs y (by omega) ⟨#[]⟩ emp t 1 0 0) ?_
      rw [put_first, if_neg (fun h => cb h.2)]
      refine Ev.bind (putEv h0.1 da xs x (by omega) ⟨#[]⟩ emp t 0 0 0) ?_
      exact evYes rfl (evNo (by simp) (evNo (by simp) (Ev.now _)))
  · rw [if_neg ca]
    refine Ev.bind (putEv h1.1 db bs y (by omega) ⟨#[]⟩ emp t 0 0 0) (Ev.bind (putEv h1.1 db bs y (by omega) ⟨#[]⟩ emp t 1 0 0) ?_)
    rw [put_first 1]
    by_cases cb : fitsE t = true ∧ mayE b 0 bs y = true
    · obtain ⟨hft, hmb⟩ := cb
      have ca' : ¬ mayE a 0 xs x = true := fun h => ca ⟨hft, h⟩
      obtain ⟨q2, u2, hu2⟩ := enc_ne (e := ⟨b, 0, bs, y⟩) ⟨hmb, by simp only; omega⟩
      have nb : lst (arr (encE ⟨b, 0, bs, y⟩)) ≠ [] := by rw [lst_arr, hu2]; simp
      have zb := enc_lenM (e := ⟨b, 0, bs, y⟩) hmb
      simp only at zb
      rw [if_pos ⟨hft, hmb⟩]
      refine Ev.bind (putEv h0.1 da xs x (by omega) (arr (encE ⟨b, 0, bs, y⟩)) (by rw [size_arr]; omega) t 1 t t) ?_
      rw [put_second nb _ _ _ hft, if_neg ca']
      exact evNo (by simp) (evYes rfl (Ev.now _))
    · rw [if_neg cb]
      refine Ev.bind (putEv h0.1 da xs x (by omega) ⟨#[]⟩ emp t 0 0 0) ?_
      exact evNo (by simp) (evNo (by simp) (Ev.now _))
end Go.Proofs.Ytgpnkgmghnmmjaa.Pure
