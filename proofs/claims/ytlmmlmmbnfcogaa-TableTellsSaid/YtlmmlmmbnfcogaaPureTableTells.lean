/- The bytes of any table, in any order, and the table of any bytes, or what is wrong, and where, is as the document says. For every input. -/
import Derived.Test.YtlmmlmmbnfcogaaQx21
import Derived.Test.YtlmmlmmbnfcogaaEv
namespace Go.Proofs.Ytlmmlmmbnfcogaa.Pure
open Go Go.RowKit Go.Proofs.Ytlmmlmmbnfcogaa.Q Go.Proofs.YtlmmlmmbnfcogaaW.PrintWords Go.Proofs.YtlmmlmmbnfcogaaW.PrintLast Go.Proofs.YtlmmlmmbnfcogaaW.PrintMore ShCore
theorem TableTells : shuttlecocklaw07_TableTells.Pure := by
  rintro ⟨d, m⟩ ⟨l1, l2⟩ s ⟨⟨_, hd⟩, hm, hml⟩ ⟨⟨_, h1⟩, _, h2⟩ hs
  simp only at hd hm hml h1 h2 hs
  have hb : ∀ l ∈ m, l.length < 4611686018427387904 := fun l hl => by have := (hm l hl).2; omega
  refine Ev.rounds (g := fun k => shuttlecocklaw07_TableTells.f k d m l1 l2 s) ?_
  have out : Ev (fun k => shuttlecocklaw07_TableTells.j0 k s true d m l1 l2) true := Ev.step (fun k => shuttlecocklaw07_TableTells.j0.eq_2 ..) (evYes rfl (Ev.bind ev_fixed (Ev.now _)))
  obtain ⟨b1, hb1, hq1⟩ := shuttlecockref06_Small.ev d m (by omega) (by omega)
  refine Ev.bind hb1 ?_
  cases b1 with
  | false => exact evNo Bool.false_ne_true out
  | true =>
  have hq := hq1 rfl
  refine evYes rfl ?_
  by_cases c1 : (s.size : Int) > 2000
  · exact evYes c1 out
  refine evNo c1 ?_
  by_cases c2 : (l1.length : Int) > 60
  · exact evYes c2 out
  refine evNo c2 ?_
  by_cases c3 : (l2.length : Int) > 60
  · rw [decide_eq_true c3]; exact out
  rw [decide_eq_false c3]
  have hsz : s.size < 4611686018427387904 := by omega
  have q1 := hq.2.1
  have q2 := hq.2.2
  refine Ev.step (fun k => shuttlecocklaw07_TableTells.j0.eq_2 ..) (evNo Bool.false_ne_true ?_)
  refine Ev.bind (table_Decode.ev s hsz) (Ev.bind (shuttlecockref07_Decode.ev s hsz) (Ev.bind ev_fixed (evYes rfl (Ev.bind (table_Encode.ev d m (by omega) (by omega)) (Ev.bind (shuttlecockref07_Encode.ev d m (by omega) (by omega) hb) (evYes rfl (Ev.bind (table_Order.ev d m l1 l2 (by omega) (by omega)) (Ev.bind (shuttlecockref07_Order.ev d m l1 l2 (by omega) (by omega) hb) (evYes rfl (Ev.bind (same_self (decT_may (lst s))) (evYes rfl (evYes rfl ?_))))))))))))
  simpa using Ev.now true
end Go.Proofs.Ytlmmlmmbnfcogaa.Pure
