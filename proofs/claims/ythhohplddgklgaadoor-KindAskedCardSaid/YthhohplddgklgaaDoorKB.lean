/- What the document's functions of kinds come to. For every number. -/
import Derived.Test.YthhohplddgklgaaDoorQx1
import Derived.Test.YthhohplddgklgaaDoorQx2
import Derived.Test.YthhohplddgklgaaDoorKA
namespace Go.Proofs.YthhohplddgklgaaDoor.Q
open Go Go.RowKit Go.Proofs.YthhohplddgklgaaDoorW.PrintWords Go.Proofs.YthhohplddgklgaaDoorW.PrintLast Go.Proofs.YthhohplddgklgaaDoorW.PrintMore ShCore
open Kind (nameF knownB expB argsL ofF)
theorem evIf {α : Type} {c : Prop} [Decidable c] {g f : Nat → Option α} {a b : α} (h1 : c → Ev g a) (h2 : ¬ c → Ev f b) : Ev (fun n => if c then g n else f n) (if c then a else b) := by
  by_cases h : c
  · rw [if_pos h]; exact evYes h (h1 h)
  · rw [if_neg h]; exact evNo h (h2 h)
theorem ev_fixed : Ev (fun _ : Nat => shuttlecocklaw03_fixed.f) true := Ev.now true
theorem rd_mid (pre : List Int) (a : Int) (r : List Int) : rd (pre ++ a :: r) (pre.length : Int) = a := by
  unfold rd
  rw [Int.toNat_natCast, List.getD_eq_getElem?_getD]
  simp
theorem ints_l0 : ∀ (rest pre : List Int), pre.length + rest.length < 4611686018427387904 → Ev (fun k => shuttlecockref01_Ints.l0 k (pre ++ rest) (pre ++ rest) (pre.length : Int)) true
  | [], pre, _ => Ev.step (fun k => shuttlecockref01_Ints.l0.eq_2 ..) (evNo (by rw [List.append_nil]; omega) (Ev.now _))
  | a :: r, pre, hs => by
    have hl : (pre.length : Int) < ((pre ++ a :: r).length : Int) := by rw [List.length_append, List.length_cons]; omega
    simp only [List.length_cons] at hs
    refine Ev.step (fun k => shuttlecockref01_Ints.l0.eq_2 ..) (evYes hl (evYes (by omega) (evYes hl (evYes rfl ?_))))
    have ih := ints_l0 r (pre ++ [a]) (by rw [List.length_append, List.length_singleton]; omega)
    rw [show wrap64 ((pre.length : Int) + 1) = ((pre ++ [a]).length : Int) by rw [List.length_append, List.length_singleton]; unfold wrap64; omega, show pre ++ a :: r = pre ++ [a] ++ r by simp]
    exact ih
theorem ints_same (l : List Int) (h : l.length < 4611686018427387904) : Ev (fun k => shuttlecockref01_Ints.f k l l) true := evYes rfl (ints_l0 l [] (by show 0 + _ < _; omega))
theorem args_f {a : Int} (h : (Lit.int .i64 a).wf = true) : kind_Args.f a = some (argsL a) := if_pos h
theorem known_f (a : Int) : shuttlecockref03_Known.f a = some (knownB a) := by
  unfold shuttlecockref03_Known.f knownB
  by_cases h : a ≥ 1
  · rw [if_pos h]
    congr 1
    rw [decide_eq_decide]
    omega
  · rw [if_neg h]
    congr 1
    exact (decide_eq_false (by omega)).symm
theorem exp_f (a : Int) : shuttlecockref03_Exp.f a = some (expB a) := by
  unfold shuttlecockref03_Exp.f expB
  by_cases h : a ≥ 128
  · rw [if_pos h, decide_eq_true (show 128 ≤ a from h)]
    congr 1
    rw [Bool.true_and, decide_eq_decide]
    omega
  · rw [if_neg h, decide_eq_false (show ¬ 128 ≤ a from h)]
    rfl
def sg (j : Nat) : Bool := match shuttlecockref01_Signed.f 10 ((128 + j : Nat) : Int) with
  | some s => decide (s = Kind.txt (Kind.dig3 (128 + j)))
  | none => false
theorem sg_all : (List.range 128).all sg = true := by decide +kernel
theorem signed_ev (n : Nat) (h0 : 128 ≤ n) (h1 : n < 256) : Ev (fun k => shuttlecockref01_Signed.f k (n : Int)) (Kind.txt (Kind.dig3 n)) := by
  have h := List.all_eq_true.1 sg_all (n - 128) (List.mem_range.2 (by omega))
  unfold sg at h
  rw [show 128 + (n - 128) = n by omega] at h
  cases hs : shuttlecockref01_Signed.f 10 (n : Int) with
  | some s =>
    rw [hs] at h
    refine Ev.of (fun k => shuttlecockref01_Signed.mono _ k) (k := 10) ?_
    rw [hs, of_decide_eq_true h]
  | none => rw [hs] at h; cases h
def nm (j : Nat) : Bool := match shuttlecockref03_Name.f 10 ((j : Int) + 1) with
  | some s => decide (s = nameF ((j : Int) + 1))
  | none => false
theorem nm_all : (List.range 10).all nm = true := by decide +kernel
theorem name_ev (a : Int) : Ev (fun k => shuttlecockref03_Name.f k a) (nameF a) := by
  cases hk : knownB a with
  | true =>
    have ha := of_decide_eq_true hk
    have h := List.all_eq_true.1 nm_all (a - 1).toNat (List.mem_range.2 (by omega))
    unfold nm at h
    rw [show (((a - 1).toNat : Nat) : Int) + 1 = a by omega] at h
    cases hs : shuttlecockref03_Name.f 10 a with
    | some s =>
      rw [hs] at h
      refine Ev.of (fun k => shuttlecockref03_Name.mono _ k) (k := 10) ?_
      rw [hs, of_decide_eq_true h]
    | none => rw [hs] at h; cases h
  | false =>
    refine Ev.bind (Ev.now _) (Ev.bind (evC ((known_f a).trans (by rw [hk]))) (evNo Bool.false_ne_true (Ev.bind (evC (exp_f a)) ?_)))
    cases he : expB a with
    | true =>
      obtain ⟨n, rfl, h0, h1⟩ := Kind.exp_nat he
      rw [Kind.nameF_exp h0 h1]
      exact evYes rfl (Ev.bind (signed_ev n h0 h1) (evYes (by show 3 + 3 ≤ _; omega) (Ev.now _)))
    | false =>
      rw [Kind.nameF_none hk he]
      exact evNo Bool.false_ne_true (Ev.now _)
theorem argsR_ev (a : Int) : Ev (fun k => shuttlecockref03_Args.f k a) (argsL a) := by
  unfold argsL
  by_cases h1 : a = 1
  · rw [if_pos h1]; exact evYes h1 (Ev.now _)
  rw [if_neg h1]; refine evNo h1 ?_
  by_cases h3 : a = 3
  · rw [if_pos h3]; exact evYes h3 (Ev.now _)
  rw [if_neg h3]; refine evNo h3 ?_
  by_cases h4 : a = 4
  · rw [if_pos h4]; exact evYes h4 (Ev.now _)
  rw [if_neg h4]; refine evNo h4 ?_
  by_cases h5 : a = 5
  · rw [if_pos h5]
    refine evYes h5 (Ev.step (fun k => shuttlecockref03_Args.j0.eq_2 ..) (evYes (by rw [h5]; rfl) (Ev.now _)))
  rw [if_neg h5]; refine evNo h5 (Ev.step (fun k => shuttlecockref03_Args.j0.eq_2 ..) ?_)
  by_cases h6 : a = 6
  · rw [if_pos h6]; exact evYes (beq_iff_eq.2 h6) (Ev.now _)
  rw [if_neg h6]; refine evNo (fun e => h6 (beq_iff_eq.1 e)) ?_
  exact evIf (fun _ => Ev.now _) (fun _ => evIf (fun _ => Ev.now _) (fun _ => evIf (fun _ => Ev.now _) (fun _ => Ev.now _)))
theorem eq_lst {a b : ByteArray} : a.toList = b.toList ↔ a = b := ⟨fun h => lst_inj (by rw [← toList_lst, ← toList_lst, h]), fun h => by rw [h]⟩
/-- The first kind that is named so, from i on; 0. -/
theorem ofR_ev (s : ByteArray) (hs : s.size ≠ 0) : ∀ (c : Nat) (i : Int), 1 ≤ i → i + c = 256 → (∀ j, 1 ≤ j → j < i → nameF j ≠ s) → Ev (fun k => shuttlecockref03_Of.l0 k s i) (ofF s)
  | 0, i, h0, hc, hn => by
    refine Ev.step (fun k => shuttlecockref03_Of.l0.eq_2 ..) (evNo (by omega) (Ev.step (fun k => shuttlecockref03_Of.j1.eq_2 ..) (evNo Bool.false_ne_true ?_)))
    by_cases h : ofF s = 0
    · rw [h]; exact Ev.now _
    · obtain ⟨e, hk⟩ := Kind.of_named h
      have hr : 1 ≤ ofF s ∧ ofF s < 256 := by
        rcases hk with hk | hk
        · have := of_decide_eq_true hk; omega
        · obtain ⟨n, e2, _, _⟩ := Kind.exp_nat hk; omega
      exact absurd e (hn _ hr.1 (by omega))
  | c + 1, i, h0, hc, hn => by
    refine Ev.step (fun k => shuttlecockref03_Of.l0.eq_2 ..) (evYes (by omega) (Ev.step (fun k => shuttlecockref03_Of.j1.eq_2 ..) (evYes ?_ (Ev.bind (name_ev i) ?_))))
    · rw [bne_iff_ne, ne_eq, toList_lst]
      intro e
      have := lst_length s
      rw [e] at this
      exact hs this.symm
    by_cases h : nameF i = s
    · refine evYes (eq_lst.2 h) ?_
      have hk : knownB i = true ∨ expB i = true := by
        cases hk : knownB i with
        | true => exact .inl rfl
        | false =>
          cases he : expB i with
          | true => exact .inr rfl
          | false =>
            rw [Kind.nameF_none hk he] at h
            exact absurd (by rw [← h]; rfl) hs
      rw [← h, Kind.of_name hk]
      exact Ev.now _
    · refine evNo (fun e => h (eq_lst.1 e)) ?_
      rw [show wrap64 (i + 1) = i + 1 by unfold wrap64; omega]
      exact ofR_ev s hs c (i + 1) (by omega) (by omega) (fun j h1 h2 => by
        rcases Int.lt_or_eq_of_le (show j ≤ i by omega) with h3 | h3
        · exact hn j h1 h3
        · rw [h3]; exact h)
theorem ofN_zero : ofF (⟨#[]⟩ : ByteArray) = 0 := ofN
theorem ofRef_ev (s : ByteArray) : Ev (fun k => shuttlecockref03_Of.f k s) (ofF s) := by
  by_cases hs : s.size = 0
  · have e : s = (⟨#[]⟩ : ByteArray) := lst_inj (by have h := lst_length s; rw [hs] at h; rw [List.length_eq_zero_iff.1 h])
    subst e
    rw [ofN_zero]
    exact Ev.step (fun k => shuttlecockref03_Of.l0.eq_2 ..) (evYes (by decide) (Ev.step (fun k => shuttlecockref03_Of.j1.eq_2 ..) (evNo (by simp) (Ev.now _))))
  · exact ofR_ev s hs 255 1 (by omega) (by omega) (fun j h1 h2 => by omega)
end Go.Proofs.YthhohplddgklgaaDoor.Q
