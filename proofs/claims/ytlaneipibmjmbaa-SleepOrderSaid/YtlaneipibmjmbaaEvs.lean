/- Steps of a printed function from some number of rounds on. Plain. -/
import Derived.Test.YtlaneipibmjmbaaWMore
namespace Go.Proofs.Ytlaneipibmjmbaa.Evs
open Go Go.RowKit Go.Proofs.YtlaneipibmjmbaaW.PrintWords
theorem evYes {α : Type} {c : Prop} [Decidable c] {g f : Nat → Option α} {r : α} (h : c) (k : Ev g r) : Ev (fun n => if c then g n else f n) r := by simpa only [if_pos h] using k
theorem evNo {α : Type} {c : Prop} [Decidable c] {g f : Nat → Option α} {r : α} (h : ¬ c) (k : Ev f r) : Ev (fun n => if c then g n else f n) r := by simpa only [if_neg h] using k
theorem evC {α : Type} {x : Option α} {a : α} (h : x = some a) : Ev (fun _ => x) a := ⟨0, fun _ _ => h⟩
theorem wrap_in {a : Int} (h : -9223372036854775808 ≤ a) (h1 : a < 9223372036854775808) : wrap64 a = a := by
  unfold wrap64
  omega
theorem wf64 {a : Int} (h : (Lit.int .i64 a).wf = true) : -9223372036854775808 ≤ a ∧ a < 9223372036854775808 := by
  simp only [Lit.wf, Bool.and_eq_true, decide_eq_true_eq] at h
  exact ⟨h.1, by have h2 : a ≤ 9223372036854775807 := h.2
                 omega⟩
theorem wf64_mk {a : Int} (h : -9223372036854775808 ≤ a) (h1 : a < 9223372036854775808) : (Lit.int .i64 a).wf = true := by
  simp only [Lit.wf, Bool.and_eq_true, decide_eq_true_eq]
  exact ⟨h, (by omega : a ≤ 9223372036854775807)⟩
end Go.Proofs.Ytlaneipibmjmbaa.Evs
