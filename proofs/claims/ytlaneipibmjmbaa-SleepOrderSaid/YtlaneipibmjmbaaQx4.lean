-- printed by a program of this session (NOTES: hprint); not the kit's print
import Derived.Test.YtlaneipibmjmbaaQx0
namespace Go.Proofs.Ytlaneipibmjmbaa.Q
open Go.RowKit Go.Proofs.YtlaneipibmjmbaaW.PrintWords Go.Proofs.YtlaneipibmjmbaaW.PrintLast Go.Proofs.YtlaneipibmjmbaaW.PrintMore
attribute [local go_sem] max2_int min2_int max_two min_two max_three min_three max_four min_four   -- for this text's walks alone
set_option linter.unusedVariables false
set_option linter.unusedSimpArgs false

/-! ### slices_Clone_api_Timer: function 21, by hand -/
def slices_Clone_api_Timer.f (l0 : List S24) : Option (List S24) := if l0.length < 8796093022208 then some l0 else none
theorem tmKM (W : World) (base : Nat) (ok : Nat → Prop) (x : S24) (cs : List Value) (h : k24.K W x cs) : k24.M W base ok x cs := by
  obtain rfl := k24_open h
  exact k24_mkM W base ok x
set_option maxHeartbeats 4000000 in
theorem slices_Clone_api_Timer.calls (A0 : Option Addr) (c0 : Nat) (l0 r : List S24) (w : World) (hr0 : Kd.C k24 w A0 l0.length l0) (hc0 : l0.length ≤ c0) (h : slices_Clone_api_Timer.f l0 = some r) :
    Calls Try.prog 21 #[.slice A0 l0.length c0] w fun e w' => ∃ v0_ : Value, e = .returned v0_ ∧ Kd.R k24 24 w' w.heap.size (fun _ => True) v0_ r ∧ Below w.heap.size w w' := by
  unfold slices_Clone_api_Timer.f at h
  split at h
  case isFalse => cases h
  rename_i hlen
  obtain rfl := Option.some.inj h
  clear h
  have HL := Aside0.mk hlen
  have HR := Aside0.mk hr0
  clear hlen hr0 hc0
  have HB := Aside0.mk (Below.refl w.heap.size w)
  cases A0 with
  | none =>
    have h0 : l0 = [] := by
      rcases Nat.eq_zero_or_pos l0.length with h | h
      · exact List.eq_nil_of_length_eq_zero h
      · obtain ⟨ad, e, _⟩ := HR.out.2.2 h
        cases e
    subst h0
    have hn : ∀ W : World, (binOp .eql 22 (.slice none 0 c0) (.slice none 0 0)).run Try.prog W = .ok (.bool true) W := fun W => Lib.run_eql_slice_nil W _ 24 none _ c0 0 0 Try.underlying22
    go_enter Try.func21, Try.ntmps21
    go_wp2
    go_ret
    exact ⟨_, rfl, Kd.R_nil _ _ _ _ _, HB.out⟩
  | some ad =>
    have hn : ∀ W : World, (binOp .eql 22 (.slice (some ad) l0.length c0) (.slice none 0 0)).run Try.prog W = .ok (.bool false) W := fun W => Lib.run_eql_slice_nil W _ 24 (some ad) _ c0 0 0 Try.underlying22
    go_enter Try.func21, Try.ntmps21
    have HO := Aside0.mk (show Kd.R k24 24 (w.alloc (.cells #[] 24)) w.heap.size (fun _ => True) (.slice (some ⟨w.heap.size, 0, none⟩) 0 0) [] from ⟨fun _ _ => trivial, OwnRow.lit w w.heap.size (ps := []) (Reps.none _ _) (Nat.le_refl _) (by simp)⟩)
    go_wp2_with (first | (at_builtin; refine Kd.R_append_rows k24 (Rr := k24.K (w.alloc (.cells #[] 24))) (w0 := w) w.heap.size rfl (.tmp 5) (.tmp 6) 22 24 _ 16 rfl Try.underlying22 info24 rfl (by decide) (by omega) (.slice (some ⟨w.heap.size, 0, none⟩) 0 0) [] l0 (some ad) l0.length c0 (fun _ => True) (fun _ => False) rfl rfl HO.out (Kd.C_alloc HR.out _) (fun x cs hx => tmKM _ _ _ x cs hx) (fun _ h => h.elim) (fun _ _ => trivial) (below_alloc HB.out _) (by simp) (by have := HL.out; simp; omega) ?_; intro v1 w1 hr1 hb1 hg1 hat1; have HR1 := Aside0.mk hr1; have HB1 := Aside0.mk hb1; clear hr1 hb1 hg1 hat1))
    go_ret
    exact ⟨_, rfl, by simpa using HR1.out, HB1.out⟩

end Go.Proofs.Ytlaneipibmjmbaa.Q
