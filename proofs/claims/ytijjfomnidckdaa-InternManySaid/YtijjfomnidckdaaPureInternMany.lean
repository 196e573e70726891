/- So many unlike strings have the numbers from 1 on, in the order in which they came; again the same. For every input. -/
import Derived.Test.YtijjfomnidckdaaQx6
import Derived.Test.YtijjfomnidckdaaEv
namespace Go.Proofs.Ytijjfomnidckdaa.Pure
open Go Go.RowKit Go.Proofs.Ytijjfomnidckdaa.Q Go.Proofs.YtijjfomnidckdaaW.PrintWords Go.Proofs.YtijjfomnidckdaaW.PrintLast Go.Proofs.YtijjfomnidckdaaW.PrintMore ShCore
def xs (i : Nat) : ByteArray := arr (List.replicate i 120)
def tab (n : Nat) : List ByteArray := (List.range n).map (fun j => xs (j + 1))
theorem xs_size (i : Nat) : (xs i).size = i := by rw [xs, size_arr, List.length_replicate]
theorem xs_inj {i j : Nat} (h : xs i = xs j) : i = j := by
  have := congrArg ByteArray.size h
  rwa [xs_size, xs_size] at this
theorem xs_succ (i : Nat) : xs i ++ (⟨#[120]⟩ : ByteArray) = xs (i + 1) := by
  show arr _ ++ arr [120] = arr _
  rw [arr_append, List.replicate_succ']
theorem tab_len (n : Nat) : (tab n).length = n := by simp [tab]
theorem tab_succ (n : Nat) : tab (n + 1) = tab n ++ [xs (n + 1)] := by simp [tab, List.range_succ]
theorem tab_mem {n : Nat} {s : ByteArray} : s ∈ tab n ↔ ∃ j < n, s = xs (j + 1) := by
  simp only [tab, List.mem_map, List.mem_range]
  exact ⟨fun ⟨j, h, e⟩ => ⟨j, h, e.symm⟩, fun ⟨j, h, e⟩ => ⟨j, h, e.symm⟩⟩
theorem tab_out (n : Nat) : xs (n + 1) ∉ tab n := fun h => by
  obtain ⟨j, hj, e⟩ := tab_mem.1 h
  have := xs_inj e
  omega
theorem tab_get {n i : Nat} (h : i < n) : (tab n)[i]? = some (xs (i + 1)) := by
  simp [tab, h]
theorem tab_nodup : ∀ n, (tab n).Nodup
  | 0 => by simp [tab]
  | n + 1 => by
    rw [tab_succ, List.nodup_append]
    exact ⟨tab_nodup n, by simp, fun a ha b hb => by rw [List.mem_singleton.1 hb]; rintro rfl; exact tab_out n ha⟩
theorem tab_may {n : Nat} (h : n ≤ 100) : MayP (tab n) [] := ⟨by rw [tab_len]; omega, by simp, fun s hs => by
  obtain ⟨j, hj, rfl⟩ := tab_mem.1 hs
  rw [xs_size]
  omega, tab_nodup n, by simp, List.nodup_nil⟩
theorem str_new {n : Nat} (h : n < 100) : StrT (tab n) [] (xs (n + 1)) = (tab (n + 1), [], ((n + 1 : Nat) : Int)) := by
  rw [StrT_eq (tab_may (by omega)), strB_new (by rw [xs_size]; omega) (tab_out n), ← tab_succ, tab_len]
  exact endT_yes _ (tab_may (by omega))
theorem str_old {n i : Nat} (h : n ≤ 100) (hi : i < n) : StrT (tab n) [] (xs (i + 1)) = (tab n, [], ((i + 1 : Nat) : Int)) := StrT_again (tab_may h) (.inr ⟨i, by omega, tab_get hi⟩)
theorem many_end (n : Nat) (h : n ≤ 40) : Ev (fun k => shuttlecocklaw06_InternMany.l0 k (n : Int) 2 (tab n) []) true := by
  have t := intern_May.ev (tab n) []
  rw [(mayC_iff _ _).2 (tab_may (by omega))] at t
  exact Ev.step (fun k => shuttlecocklaw06_InternMany.l0.eq_2 ..) (evNo (by omega) (evYes (by rw [tab_len]) (Ev.bind t (Ev.now _))))
theorem many_two (n : Nat) (h : n ≤ 40) : ∀ (c i : Nat), i + c = n → Ev (fun k => shuttlecocklaw06_InternMany.l1 k (n : Int) 1 (xs (i + 1)) ((i + 1 : Nat) : Int) (tab n) []) true
  | 0, i, hi => by
    refine Ev.step (fun k => shuttlecocklaw06_InternMany.l1.eq_2 ..) (evNo (by omega) ?_)
    rw [show wrap64 (1 + 1) = 2 by unfold wrap64; omega]
    exact many_end n h
  | c + 1, i, hi => by
    have t := intern_String.ev (tab n) [] (xs (i + 1))
    rw [str_old (by omega) (by omega)] at t
    refine Ev.step (fun k => shuttlecocklaw06_InternMany.l1.eq_2 ..) (evYes (by omega) (Ev.bind t (evYes rfl (evYes (by rw [xs_size]; omega) ?_))))
    rw [xs_succ, show wrap64 (((i + 1 : Nat) : Int) + 1) = ((i + 1 + 1 : Nat) : Int) by unfold wrap64; omega]
    exact many_two n h c (i + 1) (by omega)
theorem many_one (n : Nat) (h : n ≤ 40) : ∀ (c i : Nat), i + c = n → Ev (fun k => shuttlecocklaw06_InternMany.l1 k (n : Int) 0 (xs (i + 1)) ((i + 1 : Nat) : Int) (tab i) []) true
  | 0, i, hi => by
    obtain rfl : i = n := by omega
    refine Ev.step (fun k => shuttlecocklaw06_InternMany.l1.eq_2 ..) (evNo (by omega) ?_)
    rw [show wrap64 (0 + 1) = 1 by unfold wrap64; omega]
    exact Ev.step (fun k => shuttlecocklaw06_InternMany.l0.eq_2 ..) (evYes (by decide) (many_two i h i 0 (by omega)))
  | c + 1, i, hi => by
    have t := intern_String.ev (tab i) [] (xs (i + 1))
    rw [str_new (by omega)] at t
    refine Ev.step (fun k => shuttlecocklaw06_InternMany.l1.eq_2 ..) (evYes (by omega) (Ev.bind t (evYes rfl (evYes (by rw [xs_size]; omega) ?_))))
    rw [xs_succ, show wrap64 (((i + 1 : Nat) : Int) + 1) = ((i + 1 + 1 : Nat) : Int) by unfold wrap64; omega]
    exact many_one n h c (i + 1) (by omega)
theorem InternMany : shuttlecocklaw06_InternMany.Pure := by
  intro n hn
  refine Ev.rounds (g := fun k => shuttlecocklaw06_InternMany.f k n) ?_
  have out : Ev (fun k => shuttlecocklaw06_InternMany.j0 k n true) true := Ev.step (fun k => shuttlecocklaw06_InternMany.j0.eq_2 ..) (evYes rfl (Ev.bind ev_fixed (Ev.now _)))
  refine Ev.bind ev_fixed (evYes rfl ?_)
  by_cases c1 : n < 0
  · exact evYes c1 out
  refine evNo c1 ?_
  by_cases c2 : n > 40
  · rw [decide_eq_true c2]; exact out
  rw [decide_eq_false c2]
  obtain ⟨q, rfl⟩ : ∃ q : Nat, n = q := ⟨n.toNat, by omega⟩
  refine Ev.step (fun k => shuttlecocklaw06_InternMany.j0.eq_2 ..) (evNo (by simp) ?_)
  exact Ev.step (fun k => shuttlecocklaw06_InternMany.l0.eq_2 ..) (evYes (by decide) (many_one q (by omega) q 0 (by omega)))
end Go.Proofs.Ytijjfomnidckdaa.Pure
