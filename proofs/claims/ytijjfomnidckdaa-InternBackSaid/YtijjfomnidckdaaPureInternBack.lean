/- What was laid in is told by its number; laid in again it has the same one, and changes nothing; what had a number keeps it. For every input. -/
import Derived.Test.YtijjfomnidckdaaQx10
import Derived.Test.YtijjfomnidckdaaEv
namespace Go.Proofs.Ytijjfomnidckdaa.Pure
open Go Go.RowKit Go.Proofs.Ytijjfomnidckdaa.Q Go.Proofs.YtijjfomnidckdaaW.PrintWords Go.Proofs.YtijjfomnidckdaaW.PrintLast Go.Proofs.YtijjfomnidckdaaW.PrintMore ShCore
theorem back_l1 {d d' e : List ByteArray} {m m' e2 : List (List T2)} (h : MayP d m) (h' : MayP d' m') (hd : d <+: d') (hm : m <+: m') (p : Int) (fs : List T4) (hfs : fs.length ≤ 1000) (s : ByteArray) (i0 : Int) (he : e = d') (he2 : e2 = m') : ∀ (c i : Nat), i + c = m.length + 1 → Ev (fun k => shuttlecocklaw06_InternBack.l1 k p fs true p (i : Int) d m s fs i0 d' m' e e2) true
  | 0, i, hi => by
    subst he
    subst he2
    exact Ev.step (fun k => shuttlecocklaw06_InternBack.l1.eq_2 ..) (evNo (by omega) (evYes rfl (Ev.bind (sameF_ev fs hfs) (evYes rfl (evYes rfl (Ev.bind (same_ev h') (Ev.now _)))))))
  | c + 1, i, hi => by
    refine Ev.step (fun k => shuttlecocklaw06_InternBack.l1.eq_2 ..) (evYes (by omega) (Ev.bind (intern_Frames.ev d m i) (Ev.bind (intern_Frames.ev d' m' i) ?_)))
    rw [FramesT_pre h h' hd hm (i := (i : Int)) (by omega) (by omega)]
    have hl := FramesT_len h (i : Int)
    have e1 : wrap64 ((i : Int) + 1) = ((i + 1 : Nat) : Int) := by have := h.2.1; unfold wrap64; omega
    refine Ev.bind (sameF_ev _ (by omega)) (evYes rfl ?_)
    rw [e1]
    exact back_l1 h h' hd hm p fs hfs s i0 he he2 c (i + 1) (by omega)
theorem back_l0 {d d' e : List ByteArray} {m m' e2 : List (List T2)} (h : MayP d m) (h' : MayP d' m') (hd : d <+: d') (hm : m <+: m') (p : Int) (fs : List T4) (hfs : fs.length ≤ 1000) (s : ByteArray) (i0 : Int) (he : e = d') (he2 : e2 = m') : ∀ (c i : Nat), i + c = d.length + 1 → Ev (fun k => shuttlecocklaw06_InternBack.l0 k p fs true p (i : Int) d m s fs i0 d' m' e e2) true
  | 0, i, hi => Ev.step (fun k => shuttlecocklaw06_InternBack.l0.eq_2 ..) (evNo (by omega) (back_l1 h h' hd hm p fs hfs s i0 he he2 (m.length + 1) 0 (by omega)))
  | c + 1, i, hi => by
    refine Ev.step (fun k => shuttlecocklaw06_InternBack.l0.eq_2 ..) (evYes (by omega) (Ev.bind (intern_Name.ev d m i) (Ev.bind (intern_Name.ev d' m' i) ?_)))
    rw [NameT_pre h h' hd (i := (i : Int)) (by omega) (by omega)]
    have e1 : wrap64 ((i : Int) + 1) = ((i + 1 : Nat) : Int) := by have := h.1; unfold wrap64; omega
    refine evYes rfl ?_
    rw [e1]
    exact back_l0 h h' hd hm p fs hfs s i0 he he2 c (i + 1) (by omega)
theorem InternBack : shuttlecocklaw06_InternBack.Pure := by
  rintro ⟨d, m⟩ ⟨s, fs, i⟩ ⟨⟨_, hd⟩, hm, hml⟩ ⟨_, ⟨_, hfl⟩, _⟩
  simp only at hd hm hml hfl
  have hb : ∀ l ∈ m, l.length < 4611686018427387904 := fun l hl => by have := (hm l hl).2; omega
  refine Ev.rounds (g := fun k => shuttlecocklaw06_InternBack.f k d m s fs i) ?_
  have out : Ev (fun k => shuttlecocklaw06_InternBack.j0 k true d m s fs i) true := Ev.step (fun k => shuttlecocklaw06_InternBack.j0.eq_2 ..) (evYes rfl (Ev.bind ev_fixed (Ev.now _)))
  obtain ⟨b1, hb1, hq1⟩ := shuttlecockref06_Small.ev d m (by omega) (by omega)
  obtain ⟨b2, hb2, hq2⟩ := shuttlecockref06_Few.ev fs (by omega)
  refine Ev.bind ev_fixed (evYes rfl (Ev.bind hb1 ?_))
  cases b1 with
  | false => exact evNo Bool.false_ne_true out
  | true =>
  refine evYes rfl (Ev.bind hb2 ?_)
  cases b2 with
  | false => exact evNo Bool.false_ne_true out
  | true =>
  refine evYes rfl ?_
  have hf := hq2 rfl
  have hsm := hq1 rfl
  by_cases c1 : (s.size : Int) > 1000
  · exact evYes c1 out
  refine evNo c1 (Ev.bind (shuttlecockref06_May.ev d m hb) ?_)
  cases hmc : mayC d m with
  | false => exact out
  | true =>
  have hp := (mayC_iff d m).1 hmc
  refine Ev.step (fun k => shuttlecocklaw06_InternBack.j0.eq_2 ..) (evNo (by simp) ?_)
  obtain ⟨d1, n, e1, hp1, hpre1, hn, hl1⟩ := StrT_ok hp s (by omega) (by have := hsm.2.1; omega)
  have t1 := intern_String.ev d m s
  rw [e1] at t1
  have t2 := intern_Name.ev d1 m n
  rw [NameT_names hp1 hn] at t2
  have t3 := intern_String.ev d1 m s
  rw [StrT_again hp1 hn] at t3
  have t4 := intern_May.ev d1 m
  rw [(mayC_iff d1 m).2 hp1] at t4
  refine Ev.bind t1 (Ev.bind t2 (Ev.bind t3 (evYes rfl (evYes rfl (evYes rfl (Ev.bind (same_ev hp1) (evYes rfl (Ev.bind t4 ?_))))))))
  refine Ev.step (fun k => shuttlecocklaw06_InternBack.j1.eq_2 ..) (evNo (by simp) ?_)
  have t5 := intern_Stack.ev d1 m fs (by omega)
  rcases StkT_cases hp1 fs with ⟨h0, e⟩ | e | ⟨d2, m2, st, j, h0, e, hp2, hd2, hm2, hj, ht, _⟩
  · rw [e] at t5
    exact Ev.bind t5 (evYes rfl (evYes (by omega) (Ev.now _)))
  · rw [e] at t5
    refine Ev.bind t5 (evYes rfl ?_)
    by_cases h0 : (fs.length : Int) = 0
    · exact evYes h0 (Ev.now _)
    · exact evNo h0 (Ev.bind same_nil (Ev.now _))
  · rw [e] at t5
    have t6 := intern_Frames.ev d2 m2 ((j : Int) + 1)
    rw [FramesT_told hp2 hj ht] at t6
    have t7 := intern_Stack.ev d2 m2 fs (by omega)
    rw [StkT_again hp2 h0 hj ht] at t7
    exact Ev.bind t5 (evNo (by show ¬ ((j : Int) + 1 = 0); omega) (Ev.bind t6 (Ev.bind t7 (back_l0 hp hp2 (hpre1.trans hd2) hm2 ((j : Int) + 1) fs (by omega) s i rfl rfl (d.length + 1) 0 (by omega)))))
end Go.Proofs.Ytijjfomnidckdaa.Pure
