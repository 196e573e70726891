/- a table that may be is decoded from its bytes, in whatever order; what is decoded may be; cut off anywhere it is none. For every input. -/
import Derived.Test.YtlmmlmmbnfcogaaQx12
import Derived.Test.YtlmmlmmbnfcogaaEv
namespace Go.Proofs.Ytlmmlmmbnfcogaa.Pure
open Go Go.RowKit Go.Proofs.Ytlmmlmmbnfcogaa.Q Go.Proofs.YtlmmlmmbnfcogaaW.PrintWords Go.Proofs.YtlmmlmmbnfcogaaW.PrintLast Go.Proofs.YtlmmlmmbnfcogaaW.PrintMore ShCore
theorem TableBack : shuttlecocklaw07_TableBack.Pure := by
  rintro ⟨d, m⟩ ⟨l1, l2⟩ ⟨s, c⟩ ⟨⟨_, hd⟩, hm, hml⟩ ⟨⟨_, h1⟩, _, h2⟩ ⟨hs, _⟩
  simp only at hd hm hml h1 h2 hs
  have hb : ∀ l ∈ m, l.length < 4611686018427387904 := fun l hl => by have := (hm l hl).2; omega
  refine Ev.rounds (g := fun k => shuttlecocklaw07_TableBack.f k d m l1 l2 s c) ?_
  have out : Ev (fun k => shuttlecocklaw07_TableBack.j0 k s c true d m l1 l2) true := Ev.step (fun k => shuttlecocklaw07_TableBack.j0.eq_2 ..) (evYes rfl (Ev.bind ev_fixed (Ev.now _)))
  obtain ⟨b1, hb1, hq1⟩ := shuttlecockref06_Small.ev d m (by omega) (by omega)
  refine Ev.bind ev_fixed (evYes rfl (Ev.bind hb1 ?_))
  cases b1 with
  | false => exact evNo Bool.false_ne_true out
  | true =>
  have hq := hq1 rfl
  refine evYes rfl ?_
  by_cases c1 : (s.size : Int) > 2000
  · exact evYes c1 out
  refine evNo c1 ?_
  by_cases c2 : (l1.length : Int) > 60
  · exact evYes c2 out
  refine evNo c2 ?_
  by_cases c3 : (l2.length : Int) > 60
  · rw [decide_eq_true c3]; exact out
  rw [decide_eq_false c3]
  have hsz : s.size < 4611686018427387904 := by omega
  have q1 := hq.2.1
  have q2 := hq.2.2
  have done : Ev (fun k => shuttlecocklaw07_TableBack.j1 k c false d m l1 l2) true := by
    refine Ev.step (fun k => shuttlecocklaw07_TableBack.j1.eq_2 ..) (evNo Bool.false_ne_true (Ev.bind (table_Order.ev d m l1 l2 (by omega) (by omega)) ?_))
    by_cases c4 : (ordB d m l1 l2).size = 0
    · exact evYes (nil_lst.2 c4) (Ev.now _)
    refine evNo (fun e => c4 (nil_lst.1 e)) ?_
    obtain ⟨hp, e1, e2, hdec, hcut⟩ := dec_ordB c4
    have hbig : (ordB d m l1 l2).size < 4611686018427387904 := by
      rw [ordB_yes hp e1 e2, size_arr]
      exact ordL_small hp e1 e2
    refine Ev.bind (table_Decode.ev _ hbig) ?_
    rw [hdec]
    refine evYes rfl (evYes rfl (Ev.bind (same_self hp) (evYes rfl (Ev.bind (shuttlecockref06_May.ev d m hb) ?_))))
    rw [(mayC_iff d m).2 hp]
    refine Ev.step (fun k => shuttlecocklaw07_TableBack.j2.eq_2 ..) (evNo (by decide) ?_)
    by_cases c5 : c < 0
    · exact evYes c5 (Ev.now _)
    refine evNo c5 ?_
    by_cases c6 : c ≥ ((ordB d m l1 l2).size : Int)
    · exact evYes c6 (Ev.now _)
    refine evNo c6 (evYes (by omega) (evYes (by omega) ?_))
    obtain ⟨y, hy, e⟩ := hcut c.toNat (by omega)
    refine Ev.bind (table_Decode.ev _ (by rw [← lst_length, lst_extract, List.length_take, List.length_drop, lst_length]; omega)) ?_
    have el : lst ((ordB d m l1 l2).extract 0 c.toNat) = (lst (ordB d m l1 l2)).take c.toNat := by rw [lst_extract]; rfl
    rw [el, e]
    refine evYes rfl ?_
    rw [decide_eq_true (show y ≤ c by omega)]
    exact Ev.now _
  refine Ev.step (fun k => shuttlecocklaw07_TableBack.j0.eq_2 ..) (evNo Bool.false_ne_true (Ev.bind (table_Decode.ev s hsz) ?_))
  obtain ⟨⟨a1, a2⟩, h3⟩ := decT_any (lst s)
  rw [lst_length] at a2
  refine evNo (by omega) (evNo (by omega) ?_)
  rcases h3 with ⟨e0, hmay⟩ | ⟨e0, n1, n2⟩
  · refine evYes e0 (Ev.bind (shuttlecockref06_May.ev _ _ (may_big hmay)) ?_)
    exact evYes ((mayC_iff _ _).2 hmay) done
  · refine evNo e0 ?_
    rw [n1, n2]
    exact Ev.bind (same_self May_nil) done
end Go.Proofs.Ytlmmlmmbnfcogaa.Pure
