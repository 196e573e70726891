/- So many timers of one time are due in the order of their Gs, all at once; ahead of it none. For every input. -/
import Derived.Test.YtlaneipibmjmbaaQx11
import Derived.Test.YtlaneipibmjmbaaSleepP
namespace Go.Proofs.Ytlaneipibmjmbaa.Pure
open Go Go.RowKit Go.Proofs.Ytlaneipibmjmbaa.Q Go.Proofs.YtlaneipibmjmbaaW.PrintWords Go.Proofs.YtlaneipibmjmbaaW.PrintLast Evs
def many (at_ : Int) (m i : Nat) : List Tm := (List.range i).map fun (j : Nat) => (⟨at_, (m : Int) - i + 1 + (j : Int)⟩ : Tm)
def upTo (i : Nat) : List Int := (List.range i).map fun (j : Nat) => (j : Int) + 1
theorem upTo_len (i : Nat) : (upTo i).length = i := by simp [upTo]
theorem upTo_succ (i : Nat) : upTo (i + 1) = upTo i ++ [((i + 1 : Nat) : Int)] := by
  simp [upTo, List.range_succ]
theorem many_len (at_ : Int) (m i : Nat) : (many at_ m i).length = i := by simp [many]
theorem many_gs (at_ : Int) (i : Nat) : (many at_ i i).map (·.f1) = upTo i := by
  simp only [many, upTo, List.map_map]
  apply List.map_congr_left
  intro j _
  simp
  omega
theorem many_succ (at_ : Int) (m i : Nat) : many at_ m (i + 1) = ⟨at_, (m : Int) - i⟩ :: many at_ m i := by
  simp only [many, List.range_succ_eq_map, List.map_cons, List.map_map]
  congr 1
  · congr 1
    simp
    omega
  · apply List.map_congr_left
    intro j _
    simp
    omega
theorem many_at {at_ : Int} {m i : Nat} (x : Tm) (hx : x ∈ many at_ m i) : x.f0 = at_ := by
  simp only [many, List.mem_map] at hx
  obtain ⟨j, _, rfl⟩ := hx
  rfl
theorem many_g {at_ : Int} {m i : Nat} (x : Tm) (hx : x ∈ many at_ m i) : (m : Int) - i < x.f1 ∧ x.f1 ≤ m := by
  simp only [many, List.mem_map, List.mem_range] at hx
  obtain ⟨j, hj, rfl⟩ := hx
  simp only
  omega
theorem many_may (at_ : Int) (m i : Nat) (hi : i ≤ m) (h0 : 0 ≤ at_) (h1 : at_ < 4611686018427387904) : MayL (many at_ m i) := by
  refine ⟨fun x hx => ?_, ?_, ?_⟩
  · rw [many_at x hx]
    have := many_g x hx
    omega
  · rw [many, List.pairwise_map]
    refine List.pairwise_lt_range.imp (fun {a b} hab => ?_)
    rw [aheadT_iff]
    exact .inr ⟨rfl, show (m : Int) - i + 1 + (a : Int) < (m : Int) - i + 1 + (b : Int) by omega⟩
  · rw [many, List.pairwise_map]
    refine List.pairwise_lt_range.imp (fun {a b} hab => ?_)
    show (m : Int) - i + 1 + (a : Int) ≠ (m : Int) - i + 1 + (b : Int)
    omega
theorem many_wf (at_ : Int) (m i : Nat) (hi : i ≤ m) (hm : m ≤ 40) : wfT (many at_ m i) = true := by
  refine List.all_eq_true.2 (fun x hx => ?_)
  have := many_g x hx
  exact wf64_mk (by omega) (by omega)
theorem SleepMany : shuttlecocklaw11_SleepMany.Pure := by
  intro n at_ hn ha
  refine Ev.rounds (g := fun k => shuttlecocklaw11_SleepMany.f k n at_) ?_
  have out : Ev (fun k => shuttlecocklaw11_SleepMany.j0 k n at_ true) true := Ev.step (fun k => shuttlecocklaw11_SleepMany.j0.eq_2 ..) (evYes rfl (Ev.bind ev_fixed (Ev.now _)))
  refine Ev.bind ev_fixed (evYes rfl ?_)
  by_cases c1 : n < 1
  · exact evYes c1 out
  refine evNo c1 ?_
  by_cases c2 : n > 40
  · exact evYes c2 out
  refine evNo c2 ?_
  by_cases c3 : at_ < 1
  · exact evYes c3 out
  refine evNo c3 ?_
  by_cases c4 : at_ > 1000000
  · rw [decide_eq_true c4]
    exact out
  rw [decide_eq_false c4]
  refine Ev.step (fun k => shuttlecocklaw11_SleepMany.j0.eq_2 ..) (evNo (by simp) ?_)
  obtain ⟨m, rfl⟩ : ∃ m : Nat, n = m := ⟨n.toNat, by omega⟩
  have key : ∀ (d i : Nat), i + d = m → Ev (fun k => shuttlecocklaw11_SleepMany.l0 k m at_ (many at_ m i) (upTo i) ((i + 1 : Nat) : Int)) true := by
    intro d
    induction d with
    | zero =>
      intro i hi
      obtain rfl : i = m := by omega
      refine Ev.step (fun k => shuttlecocklaw11_SleepMany.l0.eq_2 ..) (evNo (by omega) ?_)
      have hM := many_may at_ i i (by omega) (by omega) (by omega)
      have hB := (may_iff _).2 hM
      have hW := many_wf at_ i i (by omega) (by omega)
      have hL := many_len at_ i i
      refine Ev.bind (ev_Due hW (by omega) _) (Ev.bind (ev_Due hW (by omega) _) ?_)
      rw [wrap_in (by omega) (by omega)]
      have d1 : dueL (many at_ i i) at_ = (upTo i, []) := by
        unfold dueL
        rw [hB, if_pos rfl]
        have f1 : (many at_ i i).filter (isDue at_) = many at_ i i := List.filter_eq_self.2 (fun x hx => by simp [isDue, many_at x hx])
        have f2 : (many at_ i i).filter (fun t => !isDue at_ t) = [] := List.filter_eq_nil_iff.2 (fun x hx => by simp [isDue, many_at x hx])
        rw [f1, f2, many_gs]
      have d2 : dueL (many at_ i i) (at_ - 1) = ([], many at_ i i) := by
        unfold dueL
        rw [hB, if_pos rfl]
        have f1 : (many at_ i i).filter (isDue (at_ - 1)) = [] := List.filter_eq_nil_iff.2 (fun x hx => by simp [isDue, many_at x hx]; omega)
        have f2 : (many at_ i i).filter (fun t => !isDue (at_ - 1) t) = many at_ i i := List.filter_eq_self.2 (fun x hx => by simp [isDue, many_at x hx]; omega)
        rw [f1, f2]
        rfl
      rw [d1, d2]
      refine Ev.bind (ev_Ints (by rw [upTo_len]; omega)) (evYes rfl (evYes rfl (evYes rfl ?_)))
      refine Ev.bind (ev_Same (by rw [many_len]; omega)) (evYes rfl ?_)
      refine Ev.bind (evC (next_f hW)) ?_
      have hx : nextL (many at_ i i) = at_ := by
        unfold nextL
        rw [if_neg (by omega), hB, if_pos rfl]
        rw [show rdT (many at_ i i) 0 = (many at_ i i)[0]'(by omega) from rdT_at _ 0 (by omega)]
        exact many_at _ (List.getElem_mem _)
      rw [hx]
      simpa using Ev.now (α := Bool) true
    | succ d ih =>
      intro i hi
      refine Ev.step (fun k => shuttlecocklaw11_SleepMany.l0.eq_2 ..) (evYes (by omega) ?_)
      have hW := many_wf at_ m i (by omega) (by omega)
      have hL := many_len at_ m i
      rw [wrap_in (a := (m : Int) + 1) (by omega) (by omega), wrap_in (a := (m : Int) + 1 - ((i + 1 : Nat) : Int)) (by omega) (by omega), show (m : Int) + 1 - ((i + 1 : Nat) : Int) = (m : Int) - i by omega]
      refine Ev.bind (evC (put_f (t := ⟨at_, (m : Int) - i⟩) hW (wf64_mk (by simp only; omega) (by simp only; omega)) (by omega))) ?_
      have e : insAt (many at_ m i) ⟨at_, (m : Int) - i⟩ (bsT (many at_ m i) ⟨at_, (m : Int) - i⟩) = many at_ m (i + 1) := by
        have hb : bsT (many at_ m i) ⟨at_, (m : Int) - i⟩ = 0 := by
          unfold bsT
          cases hq : many at_ m i with
          | nil => rfl
          | cons x r =>
            have hx : x ∈ many at_ m i := by rw [hq]; exact List.mem_cons_self
            have h1 := many_at x hx
            have h2 := many_g x hx
            have : aheadT x ⟨at_, (m : Int) - i⟩ = false := by
              cases ha : aheadT x ⟨at_, (m : Int) - i⟩ with
              | false => rfl
              | true =>
                have := (aheadT_iff _ _).1 ha
                simp only at this
                omega
            simp [this]
        rw [hb, many_succ]
        rfl
      rw [e]
      have hB : mayB (many at_ m i) = true := (may_iff _).2 (many_may at_ m i (by omega) (by omega) (by omega))
      have hB2 : mayB (many at_ m (i + 1)) = true := (may_iff _).2 (many_may at_ m (i + 1) (by omega) (by omega) (by omega))
      have hp : putR (many at_ m i) (many at_ m (i + 1)) = (many at_ m (i + 1), true) := by
        unfold putR
        rw [hB, hB2]
        rfl
      rw [hp]
      refine evYes rfl (evYes (by rw [upTo_len]; omega) ?_)
      rw [wrap_in (by omega) (by omega)]
      have := ih (i + 1) (by omega)
      rwa [upTo_succ] at this
  exact key m 0 (by omega)
end Go.Proofs.Ytlaneipibmjmbaa.Pure
