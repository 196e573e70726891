/- Times do not fall, from the base on, each one by its event's Dt; the events of bodies, one behind the other, are those of both. -/
import Derived.Test.YtfcombimnmkoeaaQx19
import Derived.Test.YtfcombimnmkoeaaEv
import Derived.Test.YtfcombimnmkoeaaBatG
import Derived.Test.YtfcombimnmkoeaaBatH
set_option linter.unusedVariables false
set_option linter.unusedSimpArgs false
namespace Go.Proofs.Ytfcombimnmkoeaa.Pure
open Go Go.RowKit Go.Proofs.Ytfcombimnmkoeaa.Q Go.Proofs.YtfcombimnmkoeaaW.PrintWords Go.Proofs.YtfcombimnmkoeaaW.PrintLast Go.Proofs.YtfcombimnmkoeaaW.PrintMore ShCore EvA EvB EvC EvD EvQ EvR BatA BatM BatP BatC BatD BatG BatH
theorem flat_lenT {E : List ES} (h : ∀ e ∈ E, okE e) : E.length ≤ (E.flatMap encE).length := by
  induction E with
  | nil => simp
  | cons e E ih =>
    obtain ⟨c, u, hc⟩ := enc_ne (h e (by simp))
    have := ih (fun x hx => h x (by simp [hx]))
    rw [List.flatMap_cons, List.length_append, hc, List.length_cons, List.length_cons]
    omega
theorem sums_zero (now : Int) (e : ES) (E : List ES) (h : 0 < (sums now (e :: E)).length) : (sums now (e :: E))[0] = now + e.f1 := rfl
theorem sums_at : ∀ (E : List ES) (now : Int) (i : Nat) (h : i < (sums now E).length) (h' : i < E.length), (sums now E)[i] = endT now (E.take i) + E[i].f1
  | [], now, i, h, h' => by simp at h'
  | e :: E, now, 0, h, h' => rfl
  | e :: E, now, i + 1, h, h' => by
    have := sums_at E (now + e.f1) i (by simpa [sums] using h) (by simpa using h')
    simpa [sums, endT] using this
theorem endT_at : ∀ (E : List ES) (now : Int) (i : Nat) (h : i < (sums now E).length), endT now (E.take (i + 1)) = (sums now E)[i]
  | [], now, i, h => by simp [sums] at h
  | e :: E, now, 0, h => by simp [sums, endT]
  | e :: E, now, i + 1, h => by
    have := endT_at E (now + e.f1) i (by simpa [sums] using h)
    simpa [sums, endT] using this
theorem enc_size {e : ES} (h : okE e) : e.f3.size ≤ (encE e).length := by
  unfold encE
  rw [if_pos h.1]
  unfold encL
  rcases ((mayE_iff ..).1 h.1).2 with hx | hx
  · rw [if_pos hx.1]
    unfold text
    rw [List.length_cons, List.length_append, List.length_append, lst_length]
    omega
  · have : e.f3.size = 0 := by rw [← lst_length, hx.2.2.1]; rfl
    omega
theorem mem_flat_len {E : List ES} {e : ES} (h : e ∈ E) : (encE e).length ≤ (E.flatMap encE).length := by
  induction E with
  | nil => simp at h
  | cons x E ih =>
    rw [List.flatMap_cons, List.length_append]
    rcases List.mem_cons.1 h with rfl | h
    · omega
    · have := ih h
      omega
theorem flat_smallT {E : List ES} (h : ∀ e ∈ E, e.f2.length ≤ 20 ∧ e.f3.size ≤ 300) : (E.flatMap encE).length ≤ 600 * E.length := by
  have := off_len encE E 600 (fun e he => by have := enc_len e; have := h e he; omega) E.length
  rw [off_all] at this
  exact this
section
variable {E : List ES} {s : ByteArray} (ho : ∀ e ∈ E, okE e) (hfl : E.flatMap encE = lst s) (hs : s.size ≤ 3000) {g st b : Int} (hm : mayBt g st b s.size = true) (hfit : ∀ t ∈ sums b E, t < 4611686018427387904)
variable {l : List ES} (h60 : l.length ≤ 60) (hsm : ∀ e ∈ l, e.f2.length ≤ 20 ∧ e.f3.size ≤ 300)
include ho hfl hs hm hfit h60 hsm
theorem times_end (hok : ∀ e ∈ l, okE e) : Ev (fun k => shuttlecocklaw05_BatchTimes.l1 k l E (sums b E) (l.length : Int) g st b s) true := by
  have hl := lst_length s
  have _u := hfit
  have hf2 := flat_smallT hsm
  have hE := flat_lenT ho
  rw [hfl, hl] at hE
  have hmb := (mayBt_iff ..).1 hm
  have ln := sums_length b E
  refine Ev.step (fun k => shuttlecocklaw05_BatchTimes.l1.eq_2 ..) (evNo (by omega) (Ev.bind (bytesEv l (by omega) (fun e he => by have := hsm e he; omega)) (evYes (by rw [size_arr]; omega) (Ev.bind (evsEv g st b _) ?_))))
  have hlst : lst (s ++ arr (l.flatMap encE)) = (E ++ l).flatMap encE := by rw [lst_append, lst_arr, List.flatMap_append, hfl]
  have hlen : ((E ++ l).flatMap encE).length = s.size + (l.flatMap encE).length := by rw [List.flatMap_append, List.length_append, hfl, hl]
  have hm2 : mayBt g st b ((E ++ l).flatMap encE).length = true := by
    rw [hlen, mayBt_iff]
    omega
  have hoA : ∀ e ∈ E ++ l, okE e := fun e he => (List.mem_append.1 he).elim (ho e) (hok e)
  rw [hlst]
  by_cases hfA : ∀ t ∈ sums b (E ++ l), t < 4611686018427387904
  · have h3 := evsT_enc hm2 hoA hfA
    rw [h3]
    have lnA := sums_length b (E ++ l)
    rw [List.length_append] at lnA
    refine evYes rfl (evYes ?_ ?_)
    · simp only [lnA, ln]
      rw [wrap64_of (by omega) (by omega)]
      omega
    · refine Ev.bind (evC rfl) (evYes (by simp only [List.length_nil]; omega) (Ev.bind (evC rfl) (evYes (by simp only [List.nil_append]; omega) ?_)))
      rw [List.nil_append]
      refine Ev.bind (allEv (E ++ l) (E ++ l) (by rw [List.length_append]; omega) (fun e he => by have := ok_args (hoA e he); omega)) (evYes (by simp) (evYes (by omega) (evYes (by simp only; omega) ?_)))
      rw [Int.toNat_natCast, sums_append, List.take_left]
      exact Ev.bind (Ints.ev _ _ (by omega)) (evC (by simp))
  · have h3 := evsT_long hm2 hoA hfA
    exact evNo (by rw [h3]; decide) (evYes h3 (Ev.now _))
theorem times_l1 : ∀ (d i : Nat), i + d = l.length → (∀ e ∈ l.take i, okE e) → Ev (fun k => shuttlecocklaw05_BatchTimes.l1 k l E (sums b E) i g st b s) true
  | 0, i, hi, hp => by
    obtain rfl : i = l.length := by omega
    rw [List.take_length] at hp
    exact times_end ho hfl hs hm hfit h60 hsm hp
  | d + 1, i, hi, hp => by
    have h : i < l.length := by omega
    have h3 := hsm _ (List.getElem_mem h)
    refine Ev.step (fun k => shuttlecocklaw05_BatchTimes.l1.eq_2 ..) (evYes (by omega) (evYes (by omega) ?_))
    rw [rdE h]
    refine Ev.bind (rMay l[i].f0 l[i].f1 l[i].f2 l[i].f3 (by omega)) ?_
    cases hme : mayE l[i].f0 l[i].f1 l[i].f2 l[i].f3 with
    | false => exact evNo (by simp) (Ev.now _)
    | true =>
      refine evYes rfl ?_
      by_cases c : l[i].f1 > 1000000
      · exact evYes c (Ev.now _)
      · refine evNo c ?_
        rw [nxt (by omega)]
        refine times_l1 d (i + 1) (by omega) (fun e he => ?_)
        rw [List.take_succ_eq_append_getElem h, List.mem_append, List.mem_singleton] at he
        rcases he with he | rfl
        · exact hp e he
        · exact ⟨hme, by omega⟩
theorem times_l0 : ∀ (d i : Nat), i + d = E.length → Ev (fun k => shuttlecocklaw05_BatchTimes.l0 k l E (sums b E) (endT b (E.take i)) i g st b s) true
  | 0, i, hi => by
    have hl := lst_length s
    have ln := sums_length b E
    have hE := flat_lenT ho
    rw [hfl, hl] at hE
    have hsmE : ∀ e ∈ E, e.f2.length ≤ 100 ∧ e.f3.size ≤ 100000 := fun e he => by
      have h1 := ok_args (ho e he)
      have h2 := enc_size (ho e he)
      have h3 := mem_flat_len he
      rw [hfl, hl] at h3
      omega
    refine Ev.step (fun k => shuttlecocklaw05_BatchTimes.l0.eq_2 ..) (evNo (by omega) (Ev.step (fun k => shuttlecocklaw05_BatchTimes.j2.eq_2 ..) (evNo (by simp) (evYes (by omega) (Ev.bind (bytesEv E (by omega) hsmE) ?_)))))
    rw [toList_lst, toList_lst, lst_arr, hfl]
    simp only [bne_self_eq_false]
    refine Ev.step (fun k => shuttlecocklaw05_BatchTimes.j3.eq_2 ..) (evNo (by simp) ?_)
    exact times_l1 ho hfl hs hm hfit h60 hsm l.length 0 (by omega) (by simp)
  | d + 1, i, hi => by
    have hl := lst_length s
    have ln := sums_length b E
    have hE := flat_lenT ho
    rw [hfl, hl] at hE
    have hmb := (mayBt_iff ..).1 hm
    have ih := times_l0 d (i + 1) (by omega)
    have hi1 : i < (sums b E).length := by omega
    have hi2 : i < E.length := by omega
    rw [endT_at E b i hi1] at ih
    have hat := sums_at E b i hi1 hi2
    have hft := fitsDt (ho _ (List.getElem_mem hi2))
    refine Ev.step (fun k => shuttlecocklaw05_BatchTimes.l0.eq_2 ..) (evYes (by omega) ?_)
    rw [decide_eq_true (show (i : Int) < ((sums b E).length : Int) by omega)]
    refine Ev.step (fun k => shuttlecocklaw05_BatchTimes.j2.eq_2 ..) (evYes rfl (evYes (by omega) (evYes (by omega) (evYes (by omega) ?_))))
    rw [rdI hi1, rdE hi2, nxt (by omega)]
    refine evYes ?_ ih
    rw [hat, show endT b (E.take i) + E[i].f1 - endT b (E.take i) = E[i].f1 by omega]
    exact wrap64_of (by omega) (by omega)
end
theorem BatchTimes : shuttlecocklaw05_BatchTimes.Pure := by
  rintro ⟨g, st, b, s⟩ l h0 hl
  simp only at h0
  have hls := lst_length s
  refine Ev.rounds (g := fun k => shuttlecocklaw05_BatchTimes.f k g st b s l) ?_
  have out : Ev (fun k => shuttlecocklaw05_BatchTimes.j0 k l true g st b s) true :=
    Ev.step (fun k => shuttlecocklaw05_BatchTimes.j0.eq_2 ..) (evYes rfl (Ev.bind ev_fixed05 (Ev.now _)))
  unfold shuttlecocklaw05_BatchTimes.f
  refine Ev.bind ev_fixed05 (evYes rfl ?_)
  by_cases c0 : (s.size : Int) > 3000
  · exact evYes c0 out
  refine evNo c0 (Ev.bind (Short.ev l (by omega)) ?_)
  cases h : shortB l with
  | false => exact out
  | true =>
    simp only [shortB, shortE, Bool.and_eq_true, List.all_eq_true, decide_eq_true_eq] at h
    refine Ev.step (fun k => shuttlecocklaw05_BatchTimes.j0.eq_2 ..) (evNo (by simp) (Ev.bind (evsEv g st b s) ?_))
    by_cases c1 : (evsT g st b (lst s)).2.2.2 = 0
    · obtain ⟨hm, E, e1, e2, e3, e4⟩ := evsT_back c1
      rw [hls] at hm
      refine evYes c1 ?_
      rw [e1]
      have := times_l0 e2 e3 (by omega) hm e4 h.2 h.1 E.length 0 (by omega)
      rw [List.take_zero] at this
      exact this
    · obtain ⟨w1, w2, w3⟩ := evsT_wrong c1
      refine evNo c1 (evYes ?_ (evC ?_))
      · rw [w1, w2]
        exact wrap64_of (by simp) (by simp)
      · rw [decide_eq_true (by rw [hls] at w3; exact w3)]
end Go.Proofs.Ytfcombimnmkoeaa.Pure
