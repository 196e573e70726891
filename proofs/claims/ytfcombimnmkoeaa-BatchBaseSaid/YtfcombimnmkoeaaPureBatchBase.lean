/- Another base changes all times by as much, and no event. -/
import Derived.Test.YtfcombimnmkoeaaQx20
import Derived.Test.YtfcombimnmkoeaaEv
import Derived.Test.YtfcombimnmkoeaaBatG
set_option linter.unusedVariables false
set_option linter.unusedSimpArgs false
namespace Go.Proofs.Ytfcombimnmkoeaa.Pure
open Go Go.RowKit Go.Proofs.Ytfcombimnmkoeaa.Q Go.Proofs.YtfcombimnmkoeaaW.PrintWords Go.Proofs.YtfcombimnmkoeaaW.PrintLast Go.Proofs.YtfcombimnmkoeaaW.PrintMore ShCore EvA EvB EvC EvD BatA BatM BatP BatC BatD BatG
theorem flat_len' {E : List ES} (h : ∀ e ∈ E, okE e) : E.length ≤ (E.flatMap encE).length := by
  induction E with
  | nil => simp
  | cons e E ih =>
    obtain ⟨c, u, hc⟩ := enc_ne (h e (by simp))
    have := ih (fun x hx => h x (by simp [hx]))
    rw [List.flatMap_cons, List.length_append, hc, List.length_cons, List.length_cons]
    omega
theorem sums_get (d : Int) (E : List ES) (now : Int) (i : Nat) (h : i < (sums (now + d) E).length) (h' : i < (sums now E).length) : (sums (now + d) E)[i] = (sums now E)[i] + d := by
  have e := sums_shift d E now
  simp only [e, List.getElem_map]
section
variable {E : List ES} (ho : ∀ e ∈ E, okE e) (hlen : E.length ≤ 70000) {b base : Int} (hb : 0 ≤ b ∧ b < 4611686018427387904) (hbase : 0 ≤ base ∧ base < 4611686018427387904) (h1 : ∀ t ∈ sums b E, t < 4611686018427387904) (h2 : ∀ t ∈ sums base E, t < 4611686018427387904)
include ho hlen hb hbase h1 h2
theorem base_l0 (g st : Int) (s : ByteArray) : ∀ (d i : Nat), i + d = E.length → Ev (fun k => shuttlecocklaw05_BatchBase.l0 k base E (sums b E) E (sums base E) i g st b s) true
  | 0, i, hi => by
    have _u := (⟨hb, hbase, h1, h2⟩ : _ ∧ _ ∧ _ ∧ _)
    have ln := sums_length b E
    have ln2 := sums_length base E
    refine Ev.step (fun k => shuttlecocklaw05_BatchBase.l0.eq_2 ..) (evNo (by omega) (Ev.step (fun k => shuttlecocklaw05_BatchBase.j2.eq_2 ..) (evNo (by simp) ?_)))
    refine Ev.bind (allEv E E (by omega) (fun e he => by have := ok_args (ho e he); omega)) (evYes (by simp) (evC ?_))
    rw [ln, ln2]
    simp
  | d + 1, i, hi => by
    have ln := sums_length b E
    have ln2 := sums_length base E
    have ih := base_l0 g st s d (i + 1) (by omega)
    have hi1 : i < (sums b E).length := by omega
    have hi2 : i < (sums base E).length := by omega
    refine Ev.step (fun k => shuttlecocklaw05_BatchBase.l0.eq_2 ..) (evYes (by omega) ?_)
    rw [decide_eq_true (show (i : Int) < ((sums base E).length : Int) by omega)]
    refine Ev.step (fun k => shuttlecocklaw05_BatchBase.j2.eq_2 ..) (evYes rfl (evYes (by omega) (evYes (by omega) (evYes (by omega) ?_))))
    rw [rdI hi1, rdI hi2, nxt (by omega)]
    refine evYes ?_ ih
    have hs := sums_get (base - b) E b i (by rw [show b + (base - b) = base by omega]; exact hi2) hi1
    simp only [show b + (base - b) = base by omega] at hs
    rw [hs, show (sums b E)[i] + (base - b) - (sums b E)[i] = base - b by omega]
end
theorem BatchBase : shuttlecocklaw05_BatchBase.Pure := by
  rintro ⟨g, st, b, s⟩ base h0 hw
  simp only at h0
  have hl := lst_length s
  refine Ev.rounds (g := fun k => shuttlecocklaw05_BatchBase.f k g st b s base) ?_
  unfold shuttlecocklaw05_BatchBase.f
  refine Ev.bind (evsEv g st b s) (Ev.bind ev_fixed05 (evYes rfl ?_))
  have out : ∀ (x : List ES) (y : List Int), Ev (fun k => shuttlecocklaw05_BatchBase.j0 k base x y true g st b s g st base s) true := fun x y =>
    Ev.step (fun k => shuttlecocklaw05_BatchBase.j0.eq_2 ..) (evYes rfl (Ev.bind ev_fixed05 (Ev.now _)))
  by_cases c0 : (s.size : Int) > 3000
  · exact evYes c0 (out _ _)
  refine evNo c0 ?_
  by_cases c1 : (evsT g st b (lst s)).2.2.2 = 0
  · refine evYes c1 (Ev.bind (evC (bmay_f ..)) ?_)
    obtain ⟨hm, E, e1, e2, e3, e4⟩ := evsT_back c1
    rw [e1]
    by_cases m : mayBt g st base s.size = true
    · rw [m]
      rw [hl] at hm
      have hmb := (mayBt_iff ..).1 m
      have hmb2 := (mayBt_iff ..).1 hm
      have hE := flat_len' e2
      rw [e3, hl] at hE
      refine Ev.step (fun k => shuttlecocklaw05_BatchBase.j0.eq_2 ..) (evNo (by simp) (Ev.bind (evsEv g st base s) ?_))
      by_cases hfit : ∀ t ∈ sums base E, t < 4611686018427387904
      · have h3 := evsT_enc (g := g) (st := st) (b := base) (E := E) (by rw [e3, hl]; exact m) e2 hfit
        rw [e3] at h3
        rw [h3]
        refine evYes rfl ?_
        exact base_l0 e2 (by omega) (by omega) (by omega) e4 hfit g st s E.length 0 (by omega)
      · have h3 := evsT_long (g := g) (st := st) (b := base) (E := E) (by rw [e3, hl]; exact m) e2 hfit
        rw [e3] at h3
        refine evNo (by rw [h3]; decide) (evYes h3 (evC ?_))
        rw [decide_eq_true]
        apply Classical.byContradiction
        intro hle
        apply hfit
        intro t ht
        obtain ⟨i, hi, rfl⟩ := List.mem_iff_getElem.1 ht
        have ln := sums_length b E
        have ln2 := sums_length base E
        have hs := sums_get (base - b) E b i (by rw [show b + (base - b) = base by omega]; exact hi) (by omega)
        simp only [show b + (base - b) = base by omega] at hs
        have := e4 _ (List.getElem_mem (show i < (sums b E).length by omega))
        rw [hs]
        omega
    · rw [Bool.not_eq_true] at m
      rw [m]
      exact out _ _
  · exact evNo c1 (out _ _)
end Go.Proofs.Ytfcombimnmkoeaa.Pure
