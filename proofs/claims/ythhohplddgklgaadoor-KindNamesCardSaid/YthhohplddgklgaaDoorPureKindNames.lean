/- Each kind has a name of its own, and is found by it; what has a name is known, or experimental, never both; only what is known has arguments. For every input. -/
import Derived.Test.YthhohplddgklgaaDoorQx3
import Derived.Test.YthhohplddgklgaaDoorKB
namespace Go.Proofs.YthhohplddgklgaaDoor.Pure
open Go Go.RowKit Go.Proofs.YthhohplddgklgaaDoor.Q Go.Proofs.YthhohplddgklgaaDoorW.PrintWords Go.Proofs.YthhohplddgklgaaDoorW.PrintLast Go.Proofs.YthhohplddgklgaaDoorW.PrintMore ShCore
open Kind (nameF knownB expB argsL ofF)
set_option linter.unusedSimpArgs false
theorem isN {k : Int} (h : (nameF k).size = 0) : (nameF k).toList = ([] : List UInt8) := by
  rw [toList_lst]
  exact List.length_eq_zero_iff.1 (by rw [lst_length, h])
theorem notN {k : Int} (h : (nameF k).size ≠ 0) : (nameF k).toList ≠ ([] : List UInt8) := by
  rw [toList_lst]
  intro e
  exact h (by rw [← lst_length, e]; rfl)
theorem args_none {k : Int} (h : knownB k = false) : argsL k = [] := by
  have h2 := of_decide_eq_false h
  unfold argsL
  (repeat (rw [if_neg (by omega)]))
theorem eqL {a b : ByteArray} : a.toList = b.toList ↔ a = b := ⟨fun h => lst_inj (by rw [← toList_lst, ← toList_lst, h]), fun h => by rw [h]⟩
theorem last {a b : Int} (ha : knownB a = true ∨ expB a = true) (hb : ¬ (nameF b).toList = ([] : List UInt8)) : ((nameF a).toList = (nameF b).toList ↔ a = b) := by
  have hb2 : knownB b = true ∨ expB b = true := by
    cases hk : knownB b with
    | true => exact .inl rfl
    | false =>
      cases he : expB b with
      | true => exact .inr rfl
      | false => exact absurd (isN (by rw [Kind.nameF_none hk he]; rfl)) hb
  rw [eqL]
  exact ⟨fun h => Kind.name_inj ha hb2 h, fun h => by rw [h]⟩
theorem KindNames : shuttlecocklaw03_KindNames.Pure := by
  intro a b ha hb
  have hE : kind_Exp.f a = some (expB a) := by
    unfold kind_Exp.f expB
    by_cases h : a ≥ 128
    · rw [if_pos h, decide_eq_true (show 128 ≤ a from h)]; rfl
    · rw [if_neg h, decide_eq_false (show ¬ 128 ≤ a from h)]; rfl
  have hK : kind_Known.f a = some (knownB a) := if_pos ha
  have hA : kind_Args.f a = some (argsL a) := if_pos ha
  have hNa : kind_Name.f a = some (nameF a) := if_pos ha
  have hNb : kind_Name.f b = some (nameF b) := if_pos hb
  have hO : kind_Of.f (nameF a) = some (ofF (nameF a)) := if_pos (by have := Kind.name_size a; omega)
  have hF : shuttlecocklaw03_fixed.f = some true := rfl
  unfold shuttlecocklaw03_KindNames.f
  simp only [hF, hNa, hNb, Option.bind_some, if_true]
  by_cases hn : knownB a = true ∨ expB a = true
  · have h0 := notN (Kind.name_some hn)
    have h0b : ((nameF a).toList != ([] : List UInt8)) = true := bne_iff_ne.2 h0
    have hof := Kind.of_name hn
    have hl := fun h => last (b := b) hn h
    rcases hn with hk | he
    · have he := Kind.known_exp hk
      rw [hk] at hK
      rw [he] at hE
      by_cases hz : (nameF b).toList = ([] : List UInt8)
      · simp [hK, hE, hA, hO, hof, h0, hz]
      · have hi := hl hz
        by_cases hab : a = b
        · subst hab
          simp [hK, hE, hA, hO, hof, h0, h0b]
        · have h1 : ¬ (nameF a).toList = (nameF b).toList := fun h => hab (hi.1 h)
          simp [hK, hE, hA, hO, hof, h0, h0b, hz, h1, hab]
    · have hk : knownB a = false := by
        cases h : knownB a with
        | false => rfl
        | true => rw [Kind.known_exp h] at he; cases he
      rw [hk] at hK
      rw [he] at hE
      rw [args_none hk] at hA
      by_cases hz : (nameF b).toList = ([] : List UInt8)
      · simp [hK, hE, hA, hO, hof, h0, hz]
      · have hi := hl hz
        by_cases hab : a = b
        · subst hab
          simp [hK, hE, hA, hO, hof, h0, h0b]
        · have h1 : ¬ (nameF a).toList = (nameF b).toList := fun h => hab (hi.1 h)
          simp [hK, hE, hA, hO, hof, h0, h0b, hz, h1, hab]
  · have hk : knownB a = false := by
      cases h : knownB a with
      | false => rfl
      | true => exact absurd (.inl h) hn
    have he : expB a = false := by
      cases h : expB a with
      | false => rfl
      | true => exact absurd (.inr h) hn
    have h0 := isN (k := a) (by rw [Kind.nameF_none hk he]; rfl)
    have h0b : ((nameF a).toList != ([] : List UInt8)) = false := bne_eq_false_iff_eq.2 h0
    rw [hk] at hK
    rw [he] at hE
    rw [args_none hk] at hA
    simp [hK, hE, hA, h0, h0b]
end Go.Proofs.YthhohplddgklgaaDoor.Pure
