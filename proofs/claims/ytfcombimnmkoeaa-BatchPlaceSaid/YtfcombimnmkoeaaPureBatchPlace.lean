/- Where a body is wrong is told by the place of the first event that is: behind events that are right it is how many bytes those have. -/
import Derived.Test.YtfcombimnmkoeaaQx21
import Derived.Test.YtfcombimnmkoeaaEv
import Derived.Test.YtfcombimnmkoeaaBatH
set_option linter.unusedVariables false
set_option linter.unusedSimpArgs false
namespace Go.Proofs.Ytfcombimnmkoeaa.Pure
open Go Go.RowKit Go.Proofs.Ytfcombimnmkoeaa.Q Go.Proofs.YtfcombimnmkoeaaW.PrintWords Go.Proofs.YtfcombimnmkoeaaW.PrintLast Go.Proofs.YtfcombimnmkoeaaW.PrintMore ShCore EvA EvB EvC EvQ EvR BatA BatM BatP BatC BatD BatH
theorem sums_bound : ∀ (E : List ES) (now : Int), (∀ e ∈ E, e.f1 ≤ 1000000) → ∀ t ∈ sums now E, t ≤ now + 1000000 * (E.length : Int)
  | [], now, _ => by simp [sums]
  | e :: E, now, h => by
    intro t ht
    have h1 := h e (by simp)
    rw [List.length_cons]
    rcases List.mem_cons.1 ht with rfl | ht
    · omega
    · have := sums_bound E (now + e.f1) (fun x hx => h x (by simp [hx])) t ht
      omega
theorem flat_small {E : List ES} (h : ∀ e ∈ E, e.f2.length ≤ 20 ∧ e.f3.size ≤ 300) : (E.flatMap encE).length ≤ 600 * E.length := by
  have := off_len encE E 600 (fun e he => by have := enc_len e; have := h e he; omega) E.length
  rw [off_all] at this
  exact this
section
variable {l : List ES} (h60 : l.length ≤ 60) (hsm : ∀ e ∈ l, e.f2.length ≤ 20 ∧ e.f3.size ≤ 300) (s : ByteArray) (hs : s.size ≤ 1000)
include h60 hsm hs
theorem place_end (hok : ∀ e ∈ l, okE e) (hdt : ∀ e ∈ l, e.f1 ≤ 1000000) : Ev (fun k => shuttlecocklaw05_BatchPlace.l0 k l s (l.length : Int)) true := by
  have hfl := flat_small hsm
  have hl := lst_length s
  have hsz : ((arr (l.flatMap encE) ++ (⟨#[0]⟩ : ByteArray)) ++ s).size = (l.flatMap encE).length + 1 + s.size := by
    rw [size_append', size_append', size_arr]
    rfl
  have hlst : lst ((arr (l.flatMap encE) ++ (⟨#[0]⟩ : ByteArray)) ++ s) = l.flatMap encE ++ (0 :: lst s) := by
    rw [lst_append, lst_append, lst_arr]
    simp [lst]
  refine Ev.step (fun k => shuttlecocklaw05_BatchPlace.l0.eq_2 ..) (evNo (by omega) (Ev.bind (bytesEv l (by omega) (fun e he => by have := hsm e he; omega)) ?_))
  refine evYes (by rw [size_arr]; omega) (evYes (by rw [size_append', size_arr]; have : (⟨#[0]⟩ : ByteArray).size = 1 := rfl; omega) (Ev.bind (evsEv 1 0 0 _) ?_))
  have hm : mayBt 1 0 0 (lst ((arr (l.flatMap encE) ++ (⟨#[0]⟩ : ByteArray)) ++ s)).length = true := by
    rw [lst_length, hsz, mayBt_iff]
    omega
  have hev : evsT 1 0 0 (lst ((arr (l.flatMap encE) ++ (⟨#[0]⟩ : ByteArray)) ++ s)) = ([], [], ((l.flatMap encE).length : Int), 30) := by
    unfold evsT
    rw [if_pos hm]
    rw [hlst]
    obtain ⟨m, hm2, hh⟩ := evsD_pre l (l.flatMap encE ++ (0 :: lst s)).length 0 (0 :: lst s) 0 hok (fun t ht => by
      have := sums_bound l 0 hdt t ht
      omega) (Nat.le_refl _)
    cases m with
    | zero => simp at hm2
    | succ m =>
      have hz : evsD (m + 1) (endT 0 l) (0 :: lst s) (0 + (l.flatMap encE).length) = ([], [], (l.flatMap encE).length, 30) := by
        unfold evsD
        rw [decS_zero]
        simp
      rw [hz] at hh
      simp only at hh
      rw [hh]
      rfl
  rw [hev]
  refine evYes ?_ (evYes (by rw [size_arr]) (evC (by simp)))
  simp only [List.length_nil]
  exact wrap64_of (by omega) (by omega)
theorem place_l0 : ∀ (d i : Nat), i + d = l.length → (∀ e ∈ l.take i, okE e ∧ e.f1 ≤ 1000000) → Ev (fun k => shuttlecocklaw05_BatchPlace.l0 k l s i) true
  | 0, i, hi, hp => by
    obtain rfl : i = l.length := by omega
    rw [List.take_length] at hp
    exact place_end h60 hsm s hs (fun e he => (hp e he).1) (fun e he => (hp e he).2)
  | d + 1, i, hi, hp => by
    have h : i < l.length := by omega
    have h3 := hsm _ (List.getElem_mem h)
    refine Ev.step (fun k => shuttlecocklaw05_BatchPlace.l0.eq_2 ..) (evYes (by omega) (evYes (by omega) ?_))
    rw [rdE h]
    refine Ev.bind (rMay l[i].f0 l[i].f1 l[i].f2 l[i].f3 (by omega)) ?_
    cases hm : mayE l[i].f0 l[i].f1 l[i].f2 l[i].f3 with
    | false => exact evNo (by simp) (Ev.now _)
    | true =>
      refine evYes rfl ?_
      by_cases c : l[i].f1 > 1000000
      · exact evYes c (Ev.now _)
      · refine evNo c ?_
        rw [nxt (by omega)]
        refine place_l0 d (i + 1) (by omega) (fun e he => ?_)
        rw [List.take_succ_eq_append_getElem h, List.mem_append, List.mem_singleton] at he
        rcases he with he | rfl
        · exact hp e he
        · exact ⟨⟨hm, by omega⟩, by omega⟩
end
theorem BatchPlace : shuttlecocklaw05_BatchPlace.Pure := by
  intro l s hl hs
  refine Ev.rounds (g := fun k => shuttlecocklaw05_BatchPlace.f k l s) ?_
  have out : Ev (fun k => shuttlecocklaw05_BatchPlace.j0 k l s true) true :=
    Ev.step (fun k => shuttlecocklaw05_BatchPlace.j0.eq_2 ..) (evYes rfl (Ev.bind ev_fixed05 (Ev.now _)))
  unfold shuttlecocklaw05_BatchPlace.f
  refine Ev.bind ev_fixed05 (evYes rfl (Ev.bind (Short.ev l (by omega)) ?_))
  cases h : shortB l with
  | false => exact evNo (by simp) out
  | true =>
    refine evYes rfl ?_
    simp only [shortB, shortE, Bool.and_eq_true, List.all_eq_true, decide_eq_true_eq] at h
    by_cases c : (s.size : Int) > 1000
    · rw [decide_eq_true c]
      exact out
    · rw [decide_eq_false c]
      refine Ev.step (fun k => shuttlecocklaw05_BatchPlace.j0.eq_2 ..) (evNo (by simp) ?_)
      exact place_l0 h.2 h.1 s (by omega) l.length 0 (by omega) (by simp)
end Go.Proofs.Ytfcombimnmkoeaa.Pure
