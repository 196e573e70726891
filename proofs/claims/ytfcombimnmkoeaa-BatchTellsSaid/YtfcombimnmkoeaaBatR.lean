/- The document's events of a batch, and their times, by plain lists. For every input within the machine's sizes. -/
import Derived.Test.YtfcombimnmkoeaaQx14
import Derived.Test.YtfcombimnmkoeaaEv
set_option linter.unusedVariables false
set_option linter.unusedSimpArgs false
namespace Go.Proofs.Ytfcombimnmkoeaa.BatR
open Go Go.RowKit Go.Proofs.Ytfcombimnmkoeaa.Q Go.Proofs.YtfcombimnmkoeaaW.PrintWords Go.Proofs.YtfcombimnmkoeaaW.PrintLast Go.Proofs.YtfcombimnmkoeaaW.PrintMore ShCore EvA EvB EvC EvQ EvS BatA BatN BatP
theorem rEvs0 (g st b : Int) (s : ByteArray) (hs : s.size ≤ 1000000) : ∀ (n : Nat) (now : Int) (p : Nat) (aE : List ES) (aT : List Int), 0 ≤ now → now < 4611686018427387904 → p ≤ s.size → s.size - p ≤ n → aE.length ≤ p → aT.length ≤ p →
    Ev (fun k => shuttlecockref05_Events.l0 k aE aT now p g st b s) (evsO (evsD n now ((lst s).drop p) p) aE aT) := by
  have hl := lst_length s
  have stop : ∀ (n : Nat) (now : Int) (p : Nat) (aE : List ES) (aT : List Int), p = s.size → Ev (fun k => shuttlecockref05_Events.l0 k aE aT now p g st b s) (evsO (evsD n now ((lst s).drop p) p) aE aT) := by
    intro n now p aE aT hp
    rw [List.drop_eq_nil_of_le (by omega), evsO_nil]
    exact Ev.step (fun k => shuttlecockref05_Events.l0.eq_2 ..) (evNo (by omega) (Ev.now _))
  intro n
  induction n with
  | zero => exact fun now p aE aT _ _ hp hn _ _ => stop 0 now p aE aT (by omega)
  | succ n ih =>
    intro now p aE aT h0 hM hp hn hE hT
    by_cases c : p = s.size
    · exact stop _ now p aE aT c
    have hu : (lst s).drop p ≠ [] := by
      obtain ⟨c, u, e⟩ := drop_cons (s := lst s) (p := p) (by omega)
      rw [e]
      simp
    refine Ev.step (fun k => shuttlecockref05_Events.l0.eq_2 ..) (evYes (by omega) (Ev.bind (rDecode s p (by omega)) ?_))
    rw [decT_pos _ _ (by omega)]
    by_cases h1 : (decS ((lst s).drop p)).2.2 = 0
    · rw [if_pos h1]
      obtain ⟨b1, b2, b3, b4, b5⟩ := decS_back _ h1
      have hf := fitsDt (e := (decS ((lst s).drop p)).1) ⟨b1, b5⟩
      rw [List.length_drop] at b3
      have ew : wrap64 (now + (decS ((lst s).drop p)).1.f1) = now + (decS ((lst s).drop p)).1.f1 := wrap64_of (by omega) (by omega)
      refine evYes rfl (Ev.bind (evC (rfits_f _)) ?_)
      simp only [ew]
      by_cases h2 : now + (decS ((lst s).drop p)).1.f1 < 4611686018427387904
      · have i1 := ih (now + (decS ((lst s).drop p)).1.f1) (p + (decS ((lst s).drop p)).2.1) (aE ++ [(decS ((lst s).drop p)).1]) (aT ++ [now + (decS ((lst s).drop p)).1.f1]) (by omega) h2 (by omega) (by omega) (by rw [List.length_append, List.length_singleton]; omega) (by rw [List.length_append, List.length_singleton]; omega)
        rw [← List.drop_drop, ← evsO_step aE aT hu h1 h2] at i1
        exact evYes ((fitsE_iff _).2 ⟨by omega, h2⟩) (evYes (by omega) (evYes (by omega) i1))
      · rw [evsO_long aE aT hu h1 h2]
        exact evNo (fun h => h2 ((fitsE_iff _).1 h).2) (Ev.now _)
    · rw [if_neg h1, evsO_wrong aE aT hu h1]
      exact evNo (by simp only; omega) (Ev.now _)
theorem rEvents (g st b : Int) (s : ByteArray) : Ev (fun k => shuttlecockref05_Events.f k g st b s) (evsT g st b (lst s)) := by
  unfold shuttlecockref05_Events.f evsT
  refine Ev.bind (evC (rbmay_f ..)) ?_
  rw [lst_length]
  by_cases h : mayBt g st b s.size = true
  · rw [if_pos h]
    refine evYes h ?_
    rw [mayBt_iff] at h
    have := rEvs0 g st b s (by omega) s.size b 0 [] [] (by omega) (by omega) (by omega) (by omega) (by simp) (by simp)
    rw [List.drop_zero] at this
    exact this
  · rw [if_neg h]
    exact evNo h (Ev.now _)
end Go.Proofs.Ytfcombimnmkoeaa.BatR
