/- So many Gs that wait, by rising numbers, may be; turned round, if they are two or more, they may not. For every input. -/
import Derived.Test.YthfdhoegboeaeaaQx19
import Derived.Test.YthfdhoegboeaeaaSnapC
set_option linter.unusedVariables false
namespace Go.Proofs.Ythfdhoegboeaeaa.Pure
open Go Go.RowKit Go.Proofs.Ythfdhoegboeaeaa.Q Go.Proofs.YthfdhoegboeaeaaW.PrintWords Go.Proofs.YthfdhoegboeaeaaW.PrintLast Go.Proofs.YthfdhoegboeaeaaW.PrintMore ShCore SnapA SnapB SnapC
def wait (m : Int) (i : Nat) : List GS := (List.range i).map fun (j : Nat) => (⟨m + 2 * (j : Int), 3, 0, 0⟩ : GS)
theorem wait_len (m : Int) (i : Nat) : (wait m i).length = i := by simp [wait]
theorem wait_succ (m : Int) (i : Nat) : wait m (i + 1) = wait m i ++ [⟨m + 2 * (i : Int), 3, 0, 0⟩] := by simp [wait, List.range_succ]
theorem wait_ok (m : Int) (i : Nat) (h1 : 1 ≤ m) (h2 : m ≤ 1000) (hi : i ≤ 90) : SnapOk 0 [] (wait m i) := by
  refine ⟨⟨by omega, by omega⟩, by simp, by rw [wait_len]; omega, ⟨by simp, List.Pairwise.nil⟩, fun g hg => ?_, ?_⟩
  · simp only [wait, List.mem_map, List.mem_range] at hg
    obtain ⟨j, hj, rfl⟩ := hg
    exact ⟨⟨⟨by simp only; omega, by simp only; omega⟩, ⟨by simp, by simp⟩, ⟨by simp, by simp⟩⟩, by simp only; omega, .inl ⟨.inr rfl, rfl⟩⟩
  · unfold wait
    rw [List.pairwise_map]
    refine List.pairwise_lt_range.imp fun {a b} hab => ⟨by simp only; omega, fun h => absurd h (by simp)⟩
theorem turned (m : Int) (i : Nat) (h1 : 1 ≤ m) (h2 : m ≤ 1000) (hi : i ≤ 90) : mayAll 0 [] (wait m i).reverse = decide ((i : Int) < 2) := by
  by_cases c : i < 2
  · rw [decide_eq_true (by omega)]
    have : (wait m i).reverse = wait m i := by
      rcases Nat.lt_or_ge i 1 with h | h
      · obtain rfl : i = 0 := by omega
        rfl
      · obtain rfl : i = 1 := by omega
        rfl
    rw [this]
    exact (may_iff _ _ _).2 (wait_ok m i h1 h2 hi)
  · rw [decide_eq_false (by omega)]
    cases e : mayAll 0 [] (wait m i).reverse with
    | false => rfl
    | true =>
      have o := ((may_iff _ _ _).1 e).2.2.2.2.2
      rw [List.pairwise_reverse, List.pairwise_iff_getElem] at o
      have := (o 0 1 (by rw [wait_len]; omega) (by rw [wait_len]; omega) (by omega)).1
      simp only [wait, List.getElem_map, List.getElem_range] at this
      omega
theorem many_l0 (m : Int) (h1 : 1 ≤ m) (h2 : m ≤ 1000) (n : Nat) (hn : n ≤ 90) : ∀ (d i : Nat), i + d = n → Ev (fun k => shuttlecocklaw08_SnapMany.l0 k (n : Int) m (i : Int) 0 (wait m i) 0 (wait m i).reverse) true
  | 0, i, hi => by
    obtain rfl : i = n := by omega
    refine Ev.step (fun k => shuttlecocklaw08_SnapMany.l0.eq_2 ..) ?_
    refine evNo (by omega) ?_
    have m1 := (may_iff _ _ _).2 (wait_ok m i h1 h2 hn)
    have m2 := turned m i h1 h2 hn
    simp only [may_f, Option.bind_some, m1, m2, beq_self_eq_true, if_true]
    exact Ev.now _
  | d + 1, i, hi => by
    refine Ev.step (fun k => shuttlecocklaw08_SnapMany.l0.eq_2 ..) ?_
    have e0 : wrap64 (2 * (i : Int)) = 2 * (i : Int) := wrap64_of (by omega) (by omega)
    have e1 : wrap64 (m + 2 * (i : Int)) = m + 2 * (i : Int) := wrap64_of (by omega) (by omega)
    refine evYes (by omega) (evYes (by rw [wait_len]; omega) ?_)
    simp only [Option.bind_some]
    refine evYes (by simp only [List.length_cons, List.length_nil, List.length_reverse, wait_len]; omega) ?_
    rw [e0, e1, nxt (by omega)]
    have h := many_l0 m h1 h2 n hn d (i + 1) (by omega)
    rw [wait_succ, List.reverse_append] at h
    exact h
theorem SnapMany : shuttlecocklaw08_SnapMany.Pure := by
  intro n m _ _
  refine Ev.rounds (g := fun k => shuttlecocklaw08_SnapMany.f k n m) ?_
  have out : Ev (fun k => shuttlecocklaw08_SnapMany.j0 k n m true) true := by
    refine Ev.step (fun k => shuttlecocklaw08_SnapMany.j0.eq_2 ..) ?_
    exact evYes rfl (Ev.bind ev_fixed (Ev.now _))
  unfold shuttlecocklaw08_SnapMany.f
  refine Ev.bind ev_fixed (evYes rfl ?_)
  by_cases c0 : n < 0
  · exact evYes c0 out
  refine evNo c0 ?_
  by_cases c1 : n > 90
  · exact evYes c1 out
  refine evNo c1 ?_
  by_cases c2 : m < 1
  · exact evYes c2 out
  refine evNo c2 ?_
  by_cases c3 : m > 1000
  · rw [decide_eq_true c3]
    exact out
  rw [decide_eq_false c3]
  refine Ev.step (fun k => shuttlecocklaw08_SnapMany.j0.eq_2 ..) ?_
  refine evNo (by simp) ?_
  obtain ⟨i, rfl⟩ := Int.eq_ofNat_of_zero_le (show 0 ≤ n by omega)
  exact many_l0 m (by omega) (by omega) i (by omega) i 0 (by omega)
end Go.Proofs.Ythfdhoegboeaeaa.Pure
