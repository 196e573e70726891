/- What may be, of a snap: the program's way and the document's come to the same. Plain lists alone. -/
import Derived.Test.YthfdhoegboeaeaaQx3
namespace Go.Proofs.Ythfdhoegboeaeaa.SnapA
open Go Go.RowKit Go.Proofs.Ythfdhoegboeaeaa.Q Go.Proofs.YthfdhoegboeaeaaW.PrintWords Go.Proofs.YthfdhoegboeaeaaW.PrintLast Go.Proofs.YthfdhoegboeaeaaW.PrintMore

abbrev PS := S46
abbrev GS := S36
def Fit (a : Int) : Prop := 0 ≤ a ∧ a < 4611686018427387904
theorem outN_iff (a : Int) : outN a = false ↔ Fit a := by
  unfold outN Fit
  simp only [Bool.or_eq_false_iff, decide_eq_false_iff_not]
  omega
theorem fits_iff (l : List Int) : fits l = true ↔ ∀ a ∈ l, Fit a := by
  unfold fits
  simp only [Bool.not_eq_true', List.any_eq_false, Bool.not_eq_true, outN_iff]
theorem rdP {l : List PS} {i : Nat} (h : i < l.length) : rd_T46 l (i : Int) = l[i] := by
  unfold rd_T46
  rw [Int.toNat_natCast, List.getD_eq_getElem?_getD, List.getElem?_eq_getElem h]
  rfl
theorem rdG {l : List GS} {i : Nat} (h : i < l.length) : rd_T36 l (i : Int) = l[i] := by
  unfold rd_T36
  rw [Int.toNat_natCast, List.getD_eq_getElem?_getD, List.getElem?_eq_getElem h]
  rfl
theorem key_iff (a m : Int) : (Lit.int .i64 a).sameKey (.int .i64 m) = true ↔ a = m := by
  rw [sameKey_int, decide_eq_true_eq]
/-! ### the Ps -/
def FitP (p : PS) : Prop := Fit p.f0 ∧ Fit p.f1
def ApP (p q : PS) : Prop := 0 < p.f0 → p.f0 ≠ q.f0
theorem hasP_iff (l : List PS) (m : Int) : hasP l (.int .i64 m) = true ↔ ∃ q ∈ l, 0 < q.f0 ∧ q.f0 = m := by
  unfold hasP
  simp only [List.any_eq_true, Bool.and_eq_true, decide_eq_true_eq, key_iff]
theorem hOk_iff {l : List PS} {i : Nat} (h : i < l.length) : hOk l i = true ↔ FitP l[i] ∧ ∀ q ∈ l.take i, ApP q l[i] := by
  unfold hOk
  rw [rdP h]
  simp only [Bool.and_eq_true, fits_iff, Bool.not_eq_true', List.mem_cons, List.not_mem_nil, or_false, forall_eq_or_imp, forall_eq]
  constructor
  · rintro ⟨h1, h2⟩
    refine ⟨h1, fun q hq h3 h4 => ?_⟩
    have := (hasP_iff (l.take i) (l[i]).f0).2 ⟨q, hq, h3, h4⟩
    rw [h2] at this
    cases this
  · rintro ⟨h1, h2⟩
    refine ⟨h1, ?_⟩
    cases e : hasP (l.take i) (.int .i64 (l[i]).f0) with
    | false => rfl
    | true =>
      obtain ⟨q, hq, h3, h4⟩ := (hasP_iff _ _).1 e
      exact absurd h4 (h2 q hq h3)
theorem mem_take_succ {α : Type} {l : List α} {n : Nat} (h : n < l.length) (a : α) : a ∈ l.take (n + 1) ↔ a ∈ l.take n ∨ a = l[n] := by
  rw [List.take_succ_eq_append_getElem h, List.mem_append, List.mem_singleton]
theorem pairwise_take_succ {α : Type} {R : α → α → Prop} {l : List α} {n : Nat} (h : n < l.length) : (l.take (n + 1)).Pairwise R ↔ (l.take n).Pairwise R ∧ ∀ a ∈ l.take n, R a l[n] := by
  rw [List.take_succ_eq_append_getElem h, List.pairwise_append]
  simp
theorem hPre_iff {l : List PS} : ∀ n, n ≤ l.length → (hPre l n = true ↔ (∀ p ∈ l.take n, FitP p) ∧ (l.take n).Pairwise ApP)
  | 0, _ => by simp [hPre]
  | n + 1, hn => by
    unfold hPre
    rw [Bool.and_eq_true, hPre_iff n (by omega), hOk_iff (by omega), pairwise_take_succ (by omega)]
    constructor
    · rintro ⟨⟨h1, h2⟩, h3, h4⟩
      exact ⟨fun p hp => ((mem_take_succ (by omega) p).1 hp).elim (h1 p) (fun e => e ▸ h3), h2, h4⟩
    · rintro ⟨h1, h2, h4⟩
      exact ⟨⟨fun p hp => h1 p ((mem_take_succ (by omega) p).2 (.inl hp)), h2⟩, h1 _ ((mem_take_succ (by omega) _).2 (.inr rfl)), h4⟩
def OkP (l : List PS) : Prop := (∀ p ∈ l, FitP p) ∧ l.Pairwise ApP
theorem hPre_all (l : List PS) : hPre l l.length = true ↔ OkP l := by
  have := hPre_iff (l := l) l.length (Nat.le_refl _)
  rwa [List.take_length] at this
/-! ### the Gs -/
def FitG (g : GS) : Prop := Fit g.f0 ∧ Fit g.f2 ∧ Fit g.f3
def StG (ps : List PS) (s m : Int) : Prop := ((s = 1 ∨ s = 3) ∧ m = 0) ∨ (0 < m ∧ ((s = 2 ∧ hasP ps (.int .i64 m) = true) ∨ (s = 4 ∧ hasP ps (.int .i64 m) = false)))
def OneG (ps : List PS) (g : GS) : Prop := FitG g ∧ 0 < g.f0 ∧ StG ps g.f1 g.f2
def ApG (g h : GS) : Prop := g.f0 < h.f0 ∧ (0 < g.f2 → g.f2 ≠ h.f2)
theorem busyG_iff (l : List GS) (m : Int) : busyG l (.int .i64 m) = false ↔ ∀ q ∈ l, q.f2 ≠ m := by
  unfold busyG
  simp only [List.any_eq_false, key_iff]
theorem stOk_iff (ps : List PS) (pre : List GS) (s m : Int) : stOk ps pre s m = true ↔ StG ps s m ∧ ∀ q ∈ pre, 0 < q.f2 → q.f2 ≠ m := by
  have hb := busyG_iff pre m
  unfold stOk StG
  by_cases h1 : s = 1 ∨ s = 3
  · rw [if_pos h1]
    simp only [beq_iff_eq]
    constructor
    · intro h; exact ⟨.inl ⟨h1, h⟩, fun q _ h0 => by omega⟩
    · rintro ⟨h | ⟨_, h | h⟩, _⟩
      · exact h.2
      · omega
      · omega
  · rw [if_neg h1]
    by_cases h2 : s = 2
    · subst h2
      simp only [if_true, Bool.and_eq_true, decide_eq_true_eq, Bool.not_eq_true', hb]
      constructor
      · rintro ⟨⟨h3, h4⟩, h5⟩; exact ⟨.inr ⟨h3, .inl ⟨trivial, h4⟩⟩, fun q hq _ => h5 q hq⟩
      · rintro ⟨h | ⟨h3, h | h⟩, h5⟩
        · omega
        · exact ⟨⟨h3, h.2⟩, fun q hq e => h5 q hq (by omega) e⟩
        · omega
    · rw [if_neg h2]
      by_cases h4 : s = 4
      · subst h4
        simp only [if_true, Bool.and_eq_true, decide_eq_true_eq, Bool.not_eq_true', hb]
        constructor
        · rintro ⟨⟨h3, h4⟩, h5⟩; exact ⟨.inr ⟨h3, .inr ⟨trivial, h4⟩⟩, fun q hq _ => h5 q hq⟩
        · rintro ⟨h | ⟨h3, h | h⟩, h5⟩
          · omega
          · omega
          · exact ⟨⟨h3, h.2⟩, fun q hq e => h5 q hq (by omega) e⟩
      · rw [if_neg h4]
        constructor
        · intro h; cases h
        · rintro ⟨h | ⟨h3, h | h⟩, h5⟩
          · exact absurd h.1 h1
          · exact absurd h.1 h2
          · exact absurd h.1 h4
theorem lastG_iff {l : List GS} {n : Nat} (hn : n < l.length) (h0 : ∀ g ∈ l.take n, 0 < g.f0) (hp : (l.take n).Pairwise ApG) : lastG l n < (l[n]).f0 ↔ 0 < (l[n]).f0 ∧ ∀ g ∈ l.take n, g.f0 < (l[n]).f0 := by
  unfold lastG
  cases n with
  | zero => simp
  | succ m =>
    rw [if_neg (Nat.succ_ne_zero m), show ((m + 1 : Nat) : Int) - 1 = (m : Int) by omega, rdG (show m < l.length by omega)]
    have hm : m < l.length := by omega
    have hp2 := (pairwise_take_succ hm).1 hp
    have hl := h0 _ ((mem_take_succ hm _).2 (.inr rfl))
    constructor
    · intro h
      refine ⟨by omega, fun g hg => ?_⟩
      rcases (mem_take_succ hm g).1 hg with h1 | rfl
      · have := (hp2.2 g h1).1; omega
      · exact h
    · rintro ⟨_, h⟩
      exact h _ ((mem_take_succ hm _).2 (.inr rfl))
theorem gOk_iff {ps : List PS} {l : List GS} {n : Nat} (hn : n < l.length) (h0 : ∀ g ∈ l.take n, 0 < g.f0) (hp : (l.take n).Pairwise ApG) : gOk ps l n = true ↔ OneG ps l[n] ∧ ∀ g ∈ l.take n, ApG g l[n] := by
  have hl := lastG_iff hn h0 hp
  unfold gOk OneG FitG ApG
  rw [rdG hn]
  simp only [Bool.and_eq_true, fits_iff, stOk_iff, Bool.not_eq_true', decide_eq_false_iff_not, Int.not_le, hl, List.mem_cons, List.not_mem_nil, or_false, forall_eq_or_imp, forall_eq]
  constructor
  · rintro ⟨⟨h1, h2, h3⟩, h4, h5⟩
    exact ⟨⟨h1, h2, h4⟩, fun g hg => ⟨h3 g hg, h5 g hg⟩⟩
  · rintro ⟨⟨h1, h2, h4⟩, h5⟩
    exact ⟨⟨h1, h2, fun g hg => (h5 g hg).1⟩, h4, fun g hg => (h5 g hg).2⟩
theorem gPre_iff {ps : List PS} {l : List GS} : ∀ n, n ≤ l.length → (gPre ps l n = true ↔ (∀ g ∈ l.take n, OneG ps g) ∧ (l.take n).Pairwise ApG)
  | 0, _ => by simp [gPre]
  | n + 1, hn => by
    unfold gPre
    rw [Bool.and_eq_true, gPre_iff n (by omega), pairwise_take_succ (by omega)]
    constructor
    · rintro ⟨⟨h1, h2⟩, h3⟩
      obtain ⟨h4, h5⟩ := (gOk_iff (by omega) (fun g hg => (h1 g hg).2.1) h2).1 h3
      exact ⟨fun p hp => ((mem_take_succ (by omega) p).1 hp).elim (h1 p) (fun e => e ▸ h4), h2, h5⟩
    · rintro ⟨h1, h2, h5⟩
      have h1' : ∀ g ∈ l.take n, OneG ps g := fun p hp => h1 p ((mem_take_succ (by omega) p).2 (.inl hp))
      exact ⟨⟨h1', h2⟩, (gOk_iff (by omega) (fun g hg => (h1' g hg).2.1) h2).2 ⟨h1 _ ((mem_take_succ (by omega) _).2 (.inr rfl)), h5⟩⟩
def OkG (ps : List PS) (l : List GS) : Prop := (∀ g ∈ l, OneG ps g) ∧ l.Pairwise ApG
theorem gPre_all (ps : List PS) (l : List GS) : gPre ps l l.length = true ↔ OkG ps l := by
  have := gPre_iff (ps := ps) (l := l) l.length (Nat.le_refl _)
  rwa [List.take_length] at this
def SnapOk (a : Int) (ps : List PS) (gs : List GS) : Prop := Fit a ∧ ps.length ≤ 64 ∧ gs.length ≤ 1000 ∧ OkP ps ∧ OkG ps gs
theorem may_iff (a : Int) (ps : List PS) (gs : List GS) : mayAll a ps gs = true ↔ SnapOk a ps gs := by
  unfold mayAll SnapOk
  simp only [Bool.and_eq_true, hPre_all, gPre_all, fits_iff, Bool.not_eq_true', decide_eq_false_iff_not, List.mem_cons, List.not_mem_nil, or_false, forall_eq]
  constructor
  · rintro ⟨⟨⟨⟨h1, h2⟩, h3⟩, h4⟩, h5⟩; exact ⟨h2, by omega, by omega, h1, h5⟩
  · rintro ⟨h2, h3, h4, h1, h5⟩; exact ⟨⟨⟨⟨h1, h2⟩, by omega⟩, by omega⟩, h5⟩
end Go.Proofs.Ythfdhoegboeaeaa.SnapA
