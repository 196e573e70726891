/- Whether any table may be, what it is with a string, or a stack, and their numbers, and what any numbers name, is as the document says. For every input. -/
import Derived.Test.YtijjfomnidckdaaQx13
import Derived.Test.YtijjfomnidckdaaEv
namespace Go.Proofs.Ytijjfomnidckdaa.Pure
open Go Go.RowKit Go.Proofs.Ytijjfomnidckdaa.Q Go.Proofs.YtijjfomnidckdaaW.PrintWords Go.Proofs.YtijjfomnidckdaaW.PrintLast Go.Proofs.YtijjfomnidckdaaW.PrintMore ShCore
theorem InternTells : shuttlecocklaw06_InternTells.Pure := by
  rintro ⟨d, m⟩ ⟨s, fs, i⟩ ⟨⟨_, hd⟩, hm, hml⟩ ⟨_, ⟨_, hfl⟩, _⟩
  simp only at hd hm hml hfl
  have hb : ∀ l ∈ m, l.length < 4611686018427387904 := fun l hl => by have := (hm l hl).2; omega
  refine Ev.rounds (g := fun k => shuttlecocklaw06_InternTells.f k d m s fs i) ?_
  have out : Ev (fun k => shuttlecocklaw06_InternTells.j0 k true d m s fs i) true := Ev.step (fun k => shuttlecocklaw06_InternTells.j0.eq_2 ..) (evYes rfl (Ev.bind ev_fixed (Ev.now _)))
  obtain ⟨b1, hb1, hq1⟩ := shuttlecockref06_Small.ev d m (by omega) (by omega)
  obtain ⟨b2, hb2, hq2⟩ := shuttlecockref06_Few.ev fs (by omega)
  refine Ev.bind hb1 ?_
  cases b1 with
  | false => exact evNo Bool.false_ne_true out
  | true =>
  refine evYes rfl (Ev.bind hb2 ?_)
  cases b2 with
  | false => exact evNo Bool.false_ne_true out
  | true =>
  refine evYes rfl ?_
  have hf := hq2 rfl
  by_cases c1 : (s.size : Int) > 1100
  · rw [decide_eq_true c1]; exact out
  rw [decide_eq_false c1]
  refine Ev.step (fun k => shuttlecocklaw06_InternTells.j0.eq_2 ..) (evNo Bool.false_ne_true ?_)
  refine Ev.bind (intern_String.ev d m s) (Ev.bind (shuttlecockref06_String.ev d m s hb) (Ev.bind (intern_Stack.ev d m fs (by omega)) (Ev.bind (shuttlecockref06_Stack.ev d m fs hb (by omega)) (Ev.bind (intern_Name.ev d m i) (Ev.bind (shuttlecockref06_Name.ev d m i hb) (Ev.bind (intern_Frames.ev d m i) (Ev.bind (shuttlecockref06_Frames.ev d m i hb) (Ev.bind ev_fixed (evYes rfl (Ev.bind (intern_May.ev d m) (Ev.bind (shuttlecockref06_May.ev d m hb) (evYes (by simp) ?_))))))))))))
  have e1 : Ev (fun k => shuttlecockref06_Same.f k (StrT d m s).1 (StrT d m s).2.1 (StrT d m s).1 (StrT d m s).2.1) true := by
    unfold StrT
    split
    · exact endT_same _ _ _
    · exact same_nil
  have e2 : Ev (fun k => shuttlecockref06_Same.f k (StkT d m fs).1 (StkT d m fs).2.1 (StkT d m fs).1 (StkT d m fs).2.1) true := by
    unfold StkT
    split
    · next h =>
      split
      · exact same_ev ((mayC_iff d m).1 h)
      · exact endT_same _ _ _
    · exact same_nil
  have hl : (FramesT d m i).1.length ≤ 1000 := by
    by_cases h : MayP d m
    · have := FramesT_len h i
      omega
    · rw [FramesT_out (.inr (.inr (mayC_not h)))]
      simp
  exact Ev.bind e1 (evYes rfl (evYes rfl (Ev.bind e2 (evYes rfl (evYes rfl (evYes rfl (evYes (by simp) (Ev.bind (sameF_ev _ hl) (evYes rfl (by simpa using Ev.now true))))))))))
end Go.Proofs.Ytijjfomnidckdaa.Pure
