/- Of a snap that may be an M has one P at most, and one G at most; a G that runs has a P through its M, one in a system call has none; one fewer of the Gs may be, too. For every input. -/
import Derived.Test.YthfdhoegboeaeaaQx10
import Derived.Test.YthfdhoegboeaeaaQx9
import Derived.Test.YthfdhoegboeaeaaSnapC
set_option linter.unusedVariables false
set_option linter.unusedSimpArgs false
namespace Go.Proofs.Ythfdhoegboeaeaa.Pure
open Go Go.RowKit Go.Proofs.Ythfdhoegboeaeaa.Q Go.Proofs.YthfdhoegboeaeaaW.PrintWords Go.Proofs.YthfdhoegboeaeaaW.PrintLast Go.Proofs.YthfdhoegboeaeaaW.PrintMore ShCore SnapA SnapB SnapC
theorem small_f (a : Int) (ps : List PS) (gs : List GS) : ∃ b, shuttlecockref08_Small.f a ps gs = some b := by
  unfold shuttlecockref08_Small.f
  by_cases h : (ps.length : Int) ≤ 70
  · rw [if_pos h]; exact ⟨_, rfl⟩
  · rw [if_neg h]; exact ⟨_, rfl⟩
def hold (l : List PS) (m : Int) : Nat := l.countP fun q => decide (q.f0 = m)
theorem Holds_l0 (l : List PS) (m : Int) (hl : l.length ≤ 1000000) : ∀ (d i k n : Nat), l.length = i + d → d < k → n ≤ i → shuttlecockref08_Holds.l0 k l m n i = some ((n + (l.drop i).countP (fun q => decide (q.f0 = m)) : Nat) : Int)
  | 0, i, k + 1, n, h, hk, hn => by
    unfold shuttlecockref08_Holds.l0
    rw [if_neg (by omega), List.drop_eq_nil_of_le (by omega)]
    rfl
  | d + 1, i, k + 1, n, h, hk, hn => by
    have hi : i < l.length := by omega
    have e1 : wrap64 ((i : Int) + 1) = ((i + 1 : Nat) : Int) := by unfold wrap64; omega
    have e2 : wrap64 ((n : Int) + 1) = ((n + 1 : Nat) : Int) := by unfold wrap64; omega
    unfold shuttlecockref08_Holds.l0
    rw [if_pos (by omega), if_pos (by omega), e1, e2, rdP hi, List.drop_eq_getElem_cons hi, List.countP_cons]
    by_cases hm : (l[i]).f0 = m
    · rw [if_pos hm, Holds_l0 l m hl d (i + 1) k (n + 1) (by omega) (by omega) (by omega)]
      simp [hm]
      omega
    · rw [if_neg hm, Holds_l0 l m hl d (i + 1) k n (by omega) (by omega) (by omega)]
      simp [hm]
theorem Holds_ev (l : List PS) (m : Int) (hl : l.length ≤ 1000000) : Ev (fun k => shuttlecockref08_Holds.f k l m) ((hold l m : Nat) : Int) := by
  refine ⟨l.length + 1, fun k hk => ?_⟩
  have := Holds_l0 l m hl l.length 0 k 0 (by omega) (by omega) (Nat.le_refl _)
  simpa [shuttlecockref08_Holds.f, hold] using this
theorem count_le_one {α : Type} (p : α → Bool) : ∀ l : List α, l.Pairwise (fun a b => p a = true → p b = true → False) → l.countP p ≤ 1
  | [], _ => by simp
  | a :: l, h => by
    rw [List.countP_cons]
    rw [List.pairwise_cons] at h
    cases e : p a with
    | false => have := count_le_one p l h.2; simp; omega
    | true => rw [List.countP_eq_zero.2 (fun b hb h2 => h.1 b hb e h2)]; simp
theorem hold_one {l : List PS} (h : OkP l) {m : Int} (hm : 0 < m) : (((hold l m : Nat) : Int) = 1) ↔ hasP l (.int .i64 m) = true := by
  have h1 : hold l m ≤ 1 := by
    unfold hold
    refine count_le_one _ _ (h.2.imp fun {a b} hab h1 h2 => ?_)
    simp only [decide_eq_true_eq] at h1 h2
    exact hab (by omega) (by omega)
  have h2 : 1 ≤ hold l m ↔ hasP l (.int .i64 m) = true := by
    unfold hold
    rw [hasP_iff]
    refine List.countP_pos_iff.trans ?_
    simp only [decide_eq_true_eq]
    constructor
    · rintro ⟨q, hq, h⟩; exact ⟨q, hq, by omega, h⟩
    · rintro ⟨q, hq, _, h⟩; exact ⟨q, hq, h⟩
  rw [← h2]
  omega
section
variable {a : Int} {ps : List PS} {gs : List GS} (ho : SnapOk a ps gs) (at_ : Int)
include ho
theorem ms_end : Ev (fun k => shuttlecocklaw08_SnapMs.l0 k at_ ((gs.length : Nat) : Int) a ps gs) true := by
  have hl := ho.2.2.1
  refine Ev.step (fun k => shuttlecocklaw08_SnapMs.l0.eq_2 ..) ?_
  refine evNo (by omega) ?_
  by_cases c0 : at_ < 0
  · exact evYes c0 (Ev.now _)
  refine evNo c0 ?_
  by_cases c1 : at_ ≥ (gs.length : Int)
  · exact evYes c1 (Ev.now _)
  refine evNo c1 ?_
  have e1 : wrap64 (at_ + 1) = at_ + 1 := wrap64_of (by omega) (by omega)
  simp only [Option.bind_some, e1]
  refine evYes (by omega) (evYes (by omega) (evYes (by simp only [List.length_nil, List.length_take]; omega) (evYes (by omega) (evYes (by omega) (evYes ?_ ?_)))))
  · simp only [List.length_append, List.length_nil, List.length_take, List.length_drop]; omega
  · rw [List.nil_append, may_f]
    simp only [Option.bind_some]
    have hsub : (gs.take at_.toNat ++ gs.drop (at_ + 1).toNat).Sublist gs := by
      have e2 : (at_ + 1).toNat = at_.toNat + 1 := by omega
      rw [e2]
      conv => rhs; rw [← List.take_append_drop at_.toNat gs]
      exact List.Sublist.append (List.Sublist.refl _) (by rw [← List.drop_drop]; exact List.drop_sublist _ _)
    have o : SnapOk a ps (gs.take at_.toNat ++ gs.drop (at_ + 1).toNat) := ⟨ho.1, ho.2.1, Nat.le_trans hsub.length_le ho.2.2.1, ho.2.2.2.1, fun g hg => ho.2.2.2.2.1 g (hsub.subset hg), ho.2.2.2.2.2.sublist hsub⟩
    rw [(may_iff _ _ _).2 o]
    exact Ev.now _
theorem ms_l1 (i : Nat) (hi : i < gs.length) (hk : Ev (fun k => shuttlecocklaw08_SnapMs.l0 k at_ ((i + 1 : Nat) : Int) a ps gs) true) : ∀ (d j : Nat), j + d = i → Ev (fun k => shuttlecocklaw08_SnapMs.l1 k at_ (i : Int) (j : Int) a ps gs (gs[i]).f0 (gs[i]).f1 (gs[i]).f2 (gs[i]).f3) true
  | 0, j, hj => by
    have hl := ho.2.2.1
    refine Ev.step (fun k => shuttlecocklaw08_SnapMs.l1.eq_2 ..) ?_
    refine evNo (by omega) ?_
    rw [nxt (by omega)]
    exact hk
  | d + 1, j, hj => by
    have hl := ho.2.2.1
    have hjl : j < gs.length := by omega
    refine Ev.step (fun k => shuttlecocklaw08_SnapMs.l1.eq_2 ..) ?_
    refine evYes (by omega) ?_
    rw [nxt (by omega)]
    have ih := ms_l1 i hi hk d (j + 1) (by omega)
    by_cases c : (gs[i]).f2 > 0
    · refine evYes c (evYes (by omega) (evYes (by omega) ?_))
      rw [rdG hjl]
      refine evNo (fun e => ?_) ih
      exact (List.pairwise_iff_getElem.1 ho.2.2.2.2.2 j i hjl hi (by omega)).2 (by omega) e
    · exact evNo c ih
theorem ms_l0 : ∀ (d i : Nat), i + d = gs.length → Ev (fun k => shuttlecocklaw08_SnapMs.l0 k at_ (i : Int) a ps gs) true
  | 0, i, hi => by
    obtain rfl : i = gs.length := by omega
    exact ms_end ho at_
  | d + 1, i, hi => by
    have hl := ho.2.2.1
    have hpl := ho.2.1
    have hil : i < gs.length := by omega
    have ih := ms_l0 d (i + 1) (by omega)
    have hg := ho.2.2.2.2.1 _ (List.getElem_mem hil)
    have hj : Ev (fun k => shuttlecocklaw08_SnapMs.j2 k at_ (i : Int) false a ps gs (gs[i]).f0 (gs[i]).f1 (gs[i]).f2 (gs[i]).f3) true := by
      refine Ev.step (fun k => shuttlecocklaw08_SnapMs.j2.eq_2 ..) ?_
      exact evNo (by simp) (ms_l1 ho at_ i hil ih i 0 (by omega))
    refine Ev.step (fun k => shuttlecocklaw08_SnapMs.l0.eq_2 ..) ?_
    refine evYes (by omega) (evYes (by omega) ?_)
    rw [rdG hil]
    have hst := hg.2.2
    by_cases c2 : (gs[i]).f1 = 2
    · refine evYes c2 ?_
      have hm : 0 < (gs[i]).f2 ∧ hasP ps (.int .i64 (gs[i]).f2) = true := by
        rcases hst with ⟨h | h, _⟩ | ⟨h0, ⟨_, h⟩ | ⟨h, _⟩⟩
        · omega
        · omega
        · exact ⟨h0, h⟩
        · omega
      refine evYes hm.1 ?_
      refine Ev.bind (Holds_ev ps _ (by omega)) ?_
      exact evYes ((hold_one ho.2.2.2.1 hm.1).2 hm.2) hj
    · refine evNo c2 ?_
      by_cases c0 : (gs[i]).f2 > 0
      · refine evYes c0 ?_
        have hm : (gs[i]).f1 = 4 ∧ hasP ps (.int .i64 (gs[i]).f2) = false := by
          rcases hst with ⟨_, h⟩ | ⟨h0, ⟨h, _⟩ | h⟩
          · omega
          · exact absurd h c2
          · exact h
        refine evYes hm.1 ?_
        refine Ev.bind (Holds_ev ps _ (by omega)) ?_
        refine evNo (fun e => ?_) hj
        rw [(hold_one ho.2.2.2.1 c0).1 e] at hm
        exact absurd hm.2 (by simp)
      · refine evNo c0 ?_
        refine evNo (fun e => ?_) hj
        rcases hst with ⟨h | h, _⟩ | ⟨h0, _⟩
        · omega
        · omega
        · omega
end
theorem SnapMs : shuttlecocklaw08_SnapMs.Pure := by
  intro y at_ _ hw
  obtain ⟨a, ps, gs⟩ := y
  refine Ev.rounds (g := fun k => shuttlecocklaw08_SnapMs.f k a ps gs at_) ?_
  have out : Ev (fun k => shuttlecocklaw08_SnapMs.j0 k at_ true a ps gs) true := by
    refine Ev.step (fun k => shuttlecocklaw08_SnapMs.j0.eq_2 ..) ?_
    exact evYes rfl (Ev.bind ev_fixed (Ev.now _))
  unfold shuttlecocklaw08_SnapMs.f
  refine Ev.bind ev_fixed (evYes rfl ?_)
  obtain ⟨b1, e1⟩ := small_f a ps gs
  simp only [e1, may_f, Option.bind_some]
  cases b1 with
  | false => exact evNo (by simp) out
  | true =>
  refine evYes rfl ?_
  cases m : mayAll a ps gs with
  | false => exact out
  | true =>
    refine Ev.step (fun k => shuttlecocklaw08_SnapMs.j0.eq_2 ..) ?_
    refine evNo (by simp) ?_
    have ho := (may_iff _ _ _).1 m
    exact ms_l0 ho at_ gs.length 0 (by omega)
end Go.Proofs.Ythfdhoegboeaeaa.Pure
