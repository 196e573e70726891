/- A batch's events, as they are told: plain lists. -/
import Derived.Test.YtgpnkgmghnmmjaaEv
set_option linter.unusedVariables false
set_option linter.unusedSimpArgs false
namespace Go.Proofs.Ytgpnkgmghnmmjaa.BatP
open Go Go.RowKit Go.Proofs.Ytgpnkgmghnmmjaa.Q Go.Proofs.YtgpnkgmghnmmjaaW.PrintWords Go.Proofs.YtgpnkgmghnmmjaaW.PrintLast Go.Proofs.YtgpnkgmghnmmjaaW.PrintMore ShCore EvA EvB BatA
theorem decT_pos (s : List UInt8) (p : Nat) (hp : p ≤ s.length) : decT s p = if (decS (s.drop p)).2.2 = 0 then ((decS (s.drop p)).1.f0, (decS (s.drop p)).1.f1, (decS (s.drop p)).1.f2, (decS (s.drop p)).1.f3, ((p + (decS (s.drop p)).2.1 : Nat) : Int), 0) else (0, 0, [], ⟨#[]⟩, 0, (((decS (s.drop p)).2.2 : Nat) : Int)) := by
  unfold decT
  rw [if_neg (by omega), Int.toNat_natCast]
  simp only [Int.natCast_add]
def evsO (r : List ES × List Int × Nat × Nat) (aE : List ES) (aT : List Int) : List ES × List Int × Int × Int :=
  if r.2.2.2 = 0 then (aE ++ r.1, aT ++ r.2.1, 0, 0) else ([], [], ((r.2.2.1 : Nat) : Int), ((r.2.2.2 : Nat) : Int))
theorem evsO_nil (n : Nat) (now : Int) (p : Nat) (aE : List ES) (aT : List Int) : evsO (evsD n now [] p) aE aT = (aE, aT, 0, 0) := by
  rw [evsD_nil]
  simp [evsO]
theorem drop_cons {s : List UInt8} {p : Nat} (h : p < s.length) : ∃ c u, s.drop p = c :: u := ⟨_, _, List.drop_eq_getElem_cons h⟩
/-- One more event. -/
theorem evsO_step {n : Nat} {now : Int} {u : List UInt8} {p : Nat} (aE : List ES) (aT : List Int) (hu : u ≠ []) (h1 : (decS u).2.2 = 0) (h2 : now + (decS u).1.f1 < 4611686018427387904) :
    evsO (evsD (n + 1) now u p) aE aT = evsO (evsD n (now + (decS u).1.f1) (u.drop (decS u).2.1) (p + (decS u).2.1)) (aE ++ [(decS u).1]) (aT ++ [now + (decS u).1.f1]) := by
  cases u with
  | nil => exact absurd rfl hu
  | cons c u =>
    conv => lhs; unfold evsD
    rw [if_pos h1, if_pos h2]
    unfold evsO
    by_cases h3 : (evsD n (now + (decS (c :: u)).1.f1) ((c :: u).drop (decS (c :: u)).2.1) (p + (decS (c :: u)).2.1)).2.2.2 = 0
    · simp only [if_pos h3, if_true, List.append_assoc, List.singleton_append]
    · simp only [if_neg h3]
theorem evsO_long {n : Nat} {now : Int} {u : List UInt8} {p : Nat} (aE : List ES) (aT : List Int) (hu : u ≠ []) (h1 : (decS u).2.2 = 0) (h2 : ¬ now + (decS u).1.f1 < 4611686018427387904) : evsO (evsD (n + 1) now u p) aE aT = ([], [], (p : Int), 11) := by
  cases u with
  | nil => exact absurd rfl hu
  | cons c u =>
    unfold evsD
    rw [if_pos h1, if_neg h2]
    rfl
theorem evsO_wrong {n : Nat} {now : Int} {u : List UInt8} {p : Nat} (aE : List ES) (aT : List Int) (hu : u ≠ []) (h1 : ¬ (decS u).2.2 = 0) : evsO (evsD (n + 1) now u p) aE aT = ([], [], (p : Int), (((decS u).2.2 : Nat) : Int)) := by
  cases u with
  | nil => exact absurd rfl hu
  | cons c u =>
    unfold evsD
    rw [if_neg h1]
    unfold evsO
    simp only
    rw [if_neg h1]
/-- A batch's events, as they are told. -/
def evsT (g st b : Int) (s : List UInt8) : List ES × List Int × Int × Int := if mayBt g st b s.length = true then evsO (evsD s.length b s 0) [] [] else ([], [], 0, 50)
theorem evsT_back {g st b : Int} {s : List UInt8} (h : (evsT g st b s).2.2.2 = 0) : mayBt g st b s.length = true ∧ ∃ E, evsT g st b s = (E, sums b E, 0, 0) ∧ (∀ e ∈ E, okE e) ∧ E.flatMap encE = s ∧ ∀ t ∈ sums b E, t < 4611686018427387904 := by
  unfold evsT at h ⊢
  by_cases hm : mayBt g st b s.length = true
  · rw [if_pos hm] at h ⊢
    unfold evsO at h ⊢
    by_cases h0 : (evsD s.length b s 0).2.2.2 = 0
    · obtain ⟨i1, i2, i3, i4, i5⟩ := evsD_back _ _ _ _ h0
      refine ⟨hm, (evsD s.length b s 0).1, ?_, i1, i2, by rw [← i3]; exact i4⟩
      rw [if_pos h0, List.nil_append, List.nil_append, i3]
    · rw [if_neg h0] at h
      simp only at h
      omega
  · rw [if_neg hm] at h
    simp at h
theorem evsT_wrong {g st b : Int} {s : List UInt8} (h : ¬ (evsT g st b s).2.2.2 = 0) : (evsT g st b s).1 = [] ∧ (evsT g st b s).2.1 = [] ∧ (evsT g st b s).2.2.1 ≤ s.length := by
  unfold evsT at h ⊢
  by_cases hm : mayBt g st b s.length = true
  · rw [if_pos hm] at h ⊢
    unfold evsO at h ⊢
    by_cases h0 : (evsD s.length b s 0).2.2.2 = 0
    · rw [if_pos h0] at h
      simp at h
    · rw [if_neg h0]
      have := (evsD_wrong _ _ _ _ h0).2.2
      refine ⟨rfl, rfl, ?_⟩
      simp only
      omega
  · rw [if_neg hm]
    refine ⟨rfl, rfl, ?_⟩
    simp only
    omega
theorem evsT_enc {g st b : Int} {E : List ES} (hm : mayBt g st b (E.flatMap encE).length = true) (ho : ∀ e ∈ E, okE e) (ht : ∀ t ∈ sums b E, t < 4611686018427387904) : evsT g st b (E.flatMap encE) = (E, sums b E, 0, 0) := by
  unfold evsT
  rw [if_pos hm, evsD_enc E _ b 0 ho ht (Nat.le_refl _)]
  rfl
theorem evsT_long {g st b : Int} {E : List ES} (hm : mayBt g st b (E.flatMap encE).length = true) (ho : ∀ e ∈ E, okE e) (ht : ¬ ∀ t ∈ sums b E, t < 4611686018427387904) : (evsT g st b (E.flatMap encE)).2.2.2 = 11 := by
  unfold evsT
  rw [if_pos hm]
  have h := evsD_long E (E.flatMap encE).length b 0 ho (by
    apply Classical.byContradiction
    intro hh
    exact ht (fun t h => Classical.byContradiction fun h2 => hh ⟨t, h, h2⟩)) (Nat.le_refl _)
  unfold evsO
  rw [if_neg (by omega), h]
  rfl
end Go.Proofs.Ytgpnkgmghnmmjaa.BatP
