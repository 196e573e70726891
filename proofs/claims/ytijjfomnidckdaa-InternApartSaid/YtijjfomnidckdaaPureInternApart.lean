/- Unlike strings have unlike numbers, unlike stacks, too. For every input. -/
import Derived.Test.YtijjfomnidckdaaQx9
import Derived.Test.YtijjfomnidckdaaEv
namespace Go.Proofs.Ytijjfomnidckdaa.Pure
open Go Go.RowKit Go.Proofs.Ytijjfomnidckdaa.Q Go.Proofs.YtijjfomnidckdaaW.PrintWords Go.Proofs.YtijjfomnidckdaaW.PrintLast Go.Proofs.YtijjfomnidckdaaW.PrintMore ShCore
theorem InternApart : shuttlecocklaw06_InternApart.Pure := by
  rintro ⟨d, m⟩ ⟨s, fs, i⟩ ⟨s2, gs, i2⟩ ⟨⟨_, hd⟩, hm, hml⟩ ⟨_, ⟨_, hfl⟩, _⟩ ⟨_, ⟨_, hgl⟩, _⟩
  simp only at hd hm hml hfl hgl
  have hb : ∀ l ∈ m, l.length < 4611686018427387904 := fun l hl => by have := (hm l hl).2; omega
  refine Ev.rounds (g := fun k => shuttlecocklaw06_InternApart.f k d m s fs i s2 gs i2) ?_
  have out : Ev (fun k => shuttlecocklaw06_InternApart.j0 k true d m s fs i s2 gs i2) true := Ev.step (fun k => shuttlecocklaw06_InternApart.j0.eq_2 ..) (evYes rfl (Ev.bind ev_fixed (Ev.now _)))
  obtain ⟨b1, hb1, hq1⟩ := shuttlecockref06_Small.ev d m (by omega) (by omega)
  obtain ⟨b2, hb2, hq2⟩ := shuttlecockref06_Few.ev fs (by omega)
  obtain ⟨b3, hb3, hq3⟩ := shuttlecockref06_Few.ev gs (by omega)
  refine Ev.bind ev_fixed (evYes rfl (Ev.bind hb1 ?_))
  cases b1 with
  | false => exact evNo Bool.false_ne_true out
  | true =>
  refine evYes rfl (Ev.bind (shuttlecockref06_May.ev d m hb) ?_)
  cases hmc : mayC d m with
  | false => exact evNo Bool.false_ne_true out
  | true =>
  have hp := (mayC_iff d m).1 hmc
  refine evYes rfl (Ev.bind hb2 ?_)
  cases b2 with
  | false => exact evNo Bool.false_ne_true out
  | true =>
  refine evYes rfl (Ev.bind hb3 ?_)
  cases b3 with
  | false => exact evNo Bool.false_ne_true out
  | true =>
  refine evYes rfl ?_
  have hf := hq2 rfl
  have hg := hq3 rfl
  have hsm := hq1 rfl
  by_cases c1 : (s.size : Int) > 1000
  · exact evYes c1 out
  refine evNo c1 ?_
  by_cases c2 : (s2.size : Int) > 1000
  · rw [decide_eq_true c2]; exact out
  rw [decide_eq_false c2]
  refine Ev.step (fun k => shuttlecocklaw06_InternApart.j0.eq_2 ..) (evNo (by simp) ?_)
  obtain ⟨d1, n, e1, hp1, hpre1, hn, hl1⟩ := StrT_ok hp s (by omega) (by have := hsm.2.1; omega)
  obtain ⟨d2, n2, e2, hp2, hpre2, hn2, _⟩ := StrT_ok hp1 s2 (by omega) (by have := hsm.2.1; omega)
  have t1 := intern_String.ev d m s
  rw [e1] at t1
  have t2 := intern_String.ev d1 m s2
  rw [e2] at t2
  have key : ((n == n2) != (s.toList == s2.toList)) = false := by
    rw [bne_eq_false_iff_eq, Bool.eq_iff_iff, beq_iff_eq, beq_iff_eq, eq_lst]
    constructor
    · rintro rfl
      exact (hn.mono hpre2).inj hn2
    · rintro rfl
      exact Names.fn hp2.fair (hn.mono hpre2) hn2
  refine Ev.bind t1 (Ev.bind t2 (evNo (by rw [key]; exact Bool.false_ne_true) ?_))
  have t3 := intern_Stack.ev d m fs (by omega)
  rcases StkT_cases hp fs with ⟨h0, e⟩ | e | ⟨d3, m3, st, j, h0, e, hp3, hd3, hm3, hj, ht, _⟩
  · rw [e] at t3
    exact Ev.bind t3 (Ev.bind (intern_Stack.ev _ _ gs (by omega)) (evYes rfl (Ev.now _)))
  · rw [e] at t3
    exact Ev.bind t3 (Ev.bind (intern_Stack.ev _ _ gs (by omega)) (evYes rfl (Ev.now _)))
  rw [e] at t3
  refine Ev.bind t3 ?_
  have t4 := intern_Stack.ev d3 m3 gs (by omega)
  rcases StkT_cases hp3 gs with ⟨k0, e⟩ | e | ⟨d4, m4, tt, l, k0, e, hp4, hd4, hm4, hl, hu, _⟩
  · rw [e] at t4
    exact Ev.bind t4 (evNo (by show ¬ ((j : Int) + 1 = 0); omega) (evYes rfl (Ev.now _)))
  · rw [e] at t4
    exact Ev.bind t4 (evNo (by show ¬ ((j : Int) + 1 = 0); omega) (evYes rfl (Ev.now _)))
  rw [e] at t4
  have hlm := get_lt hl
  refine Ev.bind t4 (evNo (by show ¬ ((j : Int) + 1 = 0); omega) (evNo (by show ¬ ((l : Int) + 1 = 0); omega) (evNo (by show ¬ ((m4.length : Int) < 1); omega) (Ev.bind (shuttlecockref06_SameFrames.ev fs gs (by omega)) ?_))))
  have key2 : (((j : Int) + 1 == (l : Int) + 1) == decide (fs = gs)) = true := by
    rw [beq_iff_eq, Bool.eq_iff_iff, beq_iff_eq, decide_eq_true_eq]
    have hj4 := pre_get hm4 hj
    have ht4 := TellF.mono hd4 st fs ht
    constructor
    · intro h
      obtain rfl : j = l := by omega
      obtain rfl := Option.some.inj (hj4.symm.trans hl)
      exact TellF.inj st fs gs ht4 hu
    · rintro rfl
      have := TellF.fn hp4.fair st tt fs ht4 hu
      subst this
      rw [nodup_get hp4.2.2.2.2.2 hj4 hl]
  rw [key2]
  exact Ev.now _
end Go.Proofs.Ytijjfomnidckdaa.Pure
