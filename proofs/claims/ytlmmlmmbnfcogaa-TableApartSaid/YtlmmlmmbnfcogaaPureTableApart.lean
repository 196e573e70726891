/- unlike tables that may be have unlike bytes; a table that may not be has none. For every two tables. -/
import Derived.Test.YtlmmlmmbnfcogaaQx12
import Derived.Test.YtlmmlmmbnfcogaaEv
namespace Go.Proofs.Ytlmmlmmbnfcogaa.Pure
open Go Go.RowKit Go.Proofs.Ytlmmlmmbnfcogaa.Q Go.Proofs.YtlmmlmmbnfcogaaW.PrintWords Go.Proofs.YtlmmlmmbnfcogaaW.PrintLast Go.Proofs.YtlmmlmmbnfcogaaW.PrintMore ShCore
theorem TableApart : shuttlecocklaw07_TableApart.Pure := by
  rintro ⟨d, m⟩ ⟨d', m'⟩ ⟨⟨_, hd⟩, hm, hml⟩ ⟨⟨_, hd'⟩, hm', hml'⟩
  simp only at hd hm hml hd' hm' hml'
  have hb : ∀ l ∈ m, l.length < 4611686018427387904 := fun l hl => by have := (hm l hl).2; omega
  have hb' : ∀ l ∈ m', l.length < 4611686018427387904 := fun l hl => by have := (hm' l hl).2; omega
  refine Ev.rounds (g := fun k => shuttlecocklaw07_TableApart.f k d m d' m') ?_
  have out : Ev (fun k => shuttlecocklaw07_TableApart.j0 k true d m d' m') true := Ev.step (fun k => shuttlecocklaw07_TableApart.j0.eq_2 ..) (evYes rfl (Ev.bind ev_fixed (Ev.now _)))
  refine Ev.bind ev_fixed (evYes rfl ?_)
  obtain ⟨b1, hb1, hq1⟩ := shuttlecockref06_Small.ev d m (by omega) (by omega)
  refine Ev.bind hb1 ?_
  cases b1 with
  | false => exact evNo Bool.false_ne_true out
  | true =>
  refine evYes rfl ?_
  obtain ⟨b2, hb2, hq2⟩ := shuttlecockref06_Small.ev d' m' (by omega) (by omega)
  refine Ev.bind hb2 ?_
  cases b2 with
  | false => exact out
  | true =>
  have q1 := hq1 rfl
  have q2 := hq2 rfl
  have a1 := q1.2.1
  have a2 := q1.2.2
  have a3 := q2.2.1
  have a4 := q2.2.2
  refine Ev.step (fun k => shuttlecocklaw07_TableApart.j0.eq_2 ..) (evNo (by decide) ?_)
  refine Ev.bind (table_Encode.ev d m (by omega) (by omega)) (Ev.bind (table_Encode.ev d' m' (by omega) (by omega)) (Ev.bind (shuttlecockref06_May.ev d m hb) ?_))
  have no : ∀ {x : List ByteArray} {y : List (List T2)}, (encB x y).size = 0 → mayC x y = false := fun h => mayC_not (encB_nil.1 h)
  have yes : ∀ {x : List ByteArray} {y : List (List T2)}, ¬ (encB x y).size = 0 → MayP x y := fun h => Classical.byContradiction fun e => h (encB_nil.2 e)
  have yesC : ∀ {x : List ByteArray} {y : List (List T2)}, ¬ (encB x y).size = 0 → mayC x y = true := fun h => (mayC_iff _ _).2 (yes h)
  by_cases c1 : (encB d m).size = 0
  · rw [no c1]
    refine evYes (nil_lst.2 c1) (evNo Bool.false_ne_true (Ev.bind (shuttlecockref06_May.ev d' m' hb') ?_))
    by_cases c2 : (encB d' m').size = 0
    · rw [no c2]
      exact evYes (nil_lst.2 c2) (evNo Bool.false_ne_true (Ev.now _))
    · rw [yesC c2]
      exact evNo (fun e => c2 (nil_lst.1 e)) (evYes rfl (Ev.now _))
  rw [yesC c1]
  refine evNo (fun e => c1 (nil_lst.1 e)) (evYes rfl (Ev.bind (shuttlecockref06_May.ev d' m' hb') ?_))
  by_cases c2 : (encB d' m').size = 0
  · rw [no c2]
    exact evYes (nil_lst.2 c2) (evNo Bool.false_ne_true (Ev.now _))
  rw [yesC c2]
  refine evNo (fun e => c2 (nil_lst.1 e)) (evYes rfl (Ev.bind (same_of (yes c1)) ?_))
  by_cases c3 : d = d' ∧ m = m'
  · obtain ⟨rfl, rfl⟩ := c3
    exact evYes rfl (evYes (by simp) (Ev.now _))
  · refine evNo (fun e => c3 ((encB_inj c1 c2).1 (eq_lst.1 e))) (evNo (fun e => ?_) (Ev.now _))
    rw [Bool.and_eq_true, decide_eq_true_eq, decide_eq_true_eq] at e
    exact c3 e
end Go.Proofs.Ytlmmlmmbnfcogaa.Pure
