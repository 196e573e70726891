-- printed by a program of this session (NOTES: hprint); not the kit's print
import Derived.Test.YthechcflnkofgaaQx0
import Derived.Test.YthechcflnkofgaaQx1
import Derived.Test.YthechcflnkofgaaQx4
import Derived.Test.YthechcflnkofgaaQx5
import Derived.Test.YthechcflnkofgaaQx7
import Derived.Test.YthechcflnkofgaaQx8
namespace Go.Proofs.Ythechcflnkofgaa.Q
open Go.RowKit Go.Proofs.YthechcflnkofgaaW.PrintWords Go.Proofs.YthechcflnkofgaaW.PrintLast Go.Proofs.YthechcflnkofgaaW.PrintMore
attribute [local go_sem] max2_int min2_int max_two min_two max_three min_three max_four min_four   -- for this text's walks alone
set_option linter.unusedVariables false
set_option linter.unusedSimpArgs false

def q18_0 : Array Bool := #[false, false, false, false, false, false, false, false, false, false]
def q18_1 : Array Bool := #[true, false, false, false, false, false, false, false, false, false]
def q18_2 : Array Bool := #[true, false, true, false, false, false, false, false, false, false]
def q18_3 : Array Bool := #[true, false, true, false, false, true, false, false, false, false]
def q18_4 : Array Bool := #[true, false, true, false, false, true, true, false, false, false]
def q18_5 : Array Bool := #[true, true, true, false, false, true, true, false, false, false]
def q18_6 : Array Bool := #[true, true, true, true, false, true, true, false, false, false]
def q18_7 : Array Bool := #[true, true, true, true, true, true, true, false, false, false]
def q18_8 : Array Bool := #[true, true, true, true, true, true, true, true, false, false]
def q18_9 : Array Bool := #[true, true, true, true, true, true, true, true, true, false]
def q18_10 : Array Bool := #[true, true, true, true, true, true, true, true, true, true]
/-! ### shuttlecocklaw04_EventApart: function 6 -/
def shuttlecocklaw04_EventApart.j0 : Nat → Bool → Int → Int → List Int → ByteArray → Int → Int → List Int → ByteArray → Option (Bool)
  | 0, _, _, _, _, _, _, _, _, _ => none
  | k + 1, x23, x447000, x447001, x447002, x447003, x448000, x448001, x448002, x448003 => if x23 = true then ((shuttlecocklaw04_fixed.f k).bind fun t455 => (some t455)) else ((event_Encode.f k x447000 x447001 x447002 x447003).bind fun t456 => ((event_Encode.f k x448000 x448001 x448002 x448003).bind fun t457 => ((shuttlecockref04_Same.f k x447000 x447001 x447002 x447003 x448000 x448001 x448002 x448003).bind fun t458 => (some ((t456.toList == t457.toList) == t458)))))
def shuttlecocklaw04_EventApart.f (k : Nat) (a0_0 : Int) (a0_1 : Int) (l0_2 : List Int) (a0_3 : ByteArray) (a1_0 : Int) (a1_1 : Int) (l1_2 : List Int) (a1_3 : ByteArray) : Option (Bool) := (shuttlecocklaw04_fixed.f k).bind fun t448 => (if t448 = true then ((shuttlecockref04_Short.f k (([(⟨a0_0, a0_1, l0_2, a0_3⟩ : S24), (⟨a1_0, a1_1, l1_2, a1_3⟩ : S24)] : List (S24)))).bind fun t452 => (if t452 = true then ((event_May.f a0_0 a0_1 l0_2 a0_3).bind fun t453 => (if t453 = true then ((event_May.f a1_0 a1_1 l1_2 a1_3).bind fun t454 => (shuttlecocklaw04_EventApart.j0 k (!t454) a0_0 a0_1 l0_2 a0_3 a1_0 a1_1 l1_2 a1_3)) else (shuttlecocklaw04_EventApart.j0 k true a0_0 a0_1 l0_2 a0_3 a1_0 a1_1 l1_2 a1_3))) else (shuttlecocklaw04_EventApart.j0 k true a0_0 a0_1 l0_2 a0_3 a1_0 a1_1 l1_2 a1_3))) else (shuttlecocklaw04_EventApart.j0 k true a0_0 a0_1 l0_2 a0_3 a1_0 a1_1 l1_2 a1_3))
theorem shuttlecocklaw04_EventApart.mono_l : ∀ k, (∀ y0 y1 y2 y3 y4 y5 y6 y7 y8, LeO (shuttlecocklaw04_EventApart.j0 k y0 y1 y2 y3 y4 y5 y6 y7 y8) (shuttlecocklaw04_EventApart.j0 (k + 1) y0 y1 y2 y3 y4 y5 y6 y7 y8))
  | 0 => fun _ _ _ _ _ _ _ _ _ r h => by simp [shuttlecocklaw04_EventApart.j0] at h
  | k + 1 => by
    have ih0 := shuttlecocklaw04_EventApart.mono_l k
    · intro y0 y1 y2 y3 y4 y5 y6 y7 y8
      unfold shuttlecocklaw04_EventApart.j0
      repeat' first
      | (with_reducible exact ih0 _ _ _ _ _ _ _ _ _)
      | (with_reducible exact event_Encode.mono _ _ _ _ _)
      | (with_reducible exact shuttlecocklaw04_fixed.mono _)
      | (with_reducible exact shuttlecockref04_Same.mono _ _ _ _ _ _ _ _ _)
      | (with_reducible exact shuttlecockref04_Short.mono _ _)
      | (with_reducible exact LeO.refl _)
      | (with_reducible exact LeO.none _)
      | (with_reducible refine LeO.ite ?_ ?_)
      | (with_reducible refine LeO.bind ?_ (fun _ => ?_))
      | exact ih0 _ _ _ _ _ _ _ _ _
      | exact event_Encode.mono _ _ _ _ _
      | exact shuttlecocklaw04_fixed.mono _
      | exact shuttlecockref04_Same.mono _ _ _ _ _ _ _ _ _
      | exact shuttlecockref04_Short.mono _ _
      | exact LeO.none _
      | refine LeO.ite ?_ ?_
      | refine LeO.bind ?_ (fun _ => ?_)
theorem shuttlecocklaw04_EventApart.mono : ∀ a0 a1 a2 a3 a4 a5 a6 a7 k, LeO (shuttlecocklaw04_EventApart.f k a0 a1 a2 a3 a4 a5 a6 a7) (shuttlecocklaw04_EventApart.f (k + 1) a0 a1 a2 a3 a4 a5 a6 a7) := by
  intro a0 a1 a2 a3 a4 a5 a6 a7 k
  have ih0 := shuttlecocklaw04_EventApart.mono_l k
  unfold shuttlecocklaw04_EventApart.f
  repeat' first
      | (with_reducible exact ih0 _ _ _ _ _ _ _ _ _)
      | (with_reducible exact event_Encode.mono _ _ _ _ _)
      | (with_reducible exact shuttlecocklaw04_fixed.mono _)
      | (with_reducible exact shuttlecockref04_Same.mono _ _ _ _ _ _ _ _ _)
      | (with_reducible exact shuttlecockref04_Short.mono _ _)
      | (with_reducible exact LeO.refl _)
      | (with_reducible exact LeO.none _)
      | (with_reducible refine LeO.ite ?_ ?_)
      | (with_reducible refine LeO.bind ?_ (fun _ => ?_))
      | exact ih0 _ _ _ _ _ _ _ _ _
      | exact event_Encode.mono _ _ _ _ _
      | exact shuttlecocklaw04_fixed.mono _
      | exact shuttlecockref04_Same.mono _ _ _ _ _ _ _ _ _
      | exact shuttlecockref04_Short.mono _ _
      | exact LeO.none _
      | refine LeO.ite ?_ ?_
      | refine LeO.bind ?_ (fun _ => ?_)
def shuttlecocklaw04_EventApart.T3 : Bool × List (List Nat × List Nat) := (true, [([], []), ([0], [0]), ([], []), ([2, 1], [2]), ([1, 3], [1, 3]), ([], []), ([], []), ([5, 6, 3], [5, 6]), ([4, 7], [4, 7]), ([8, 7, 0, 1, 2, 3, 4, 5, 6, 7, 8], [8])])
def shuttlecocklaw04_EventApart.B3 : List Nat := [0, 1, 0, 7, 15, 0, 0, 111, 255, 511]
theorem shuttlecocklaw04_EventApart.tab3 : rtab .any (opsOf Try.f6 3) = shuttlecocklaw04_EventApart.T3 := by kernel_rfl
theorem shuttlecocklaw04_EventApart.bits3 : waitsOk shuttlecocklaw04_EventApart.T3.2 shuttlecocklaw04_EventApart.B3 = true := by kernel_rfl
set_option maxHeartbeats 8000000 in
set_option maxRecDepth 100000 in
theorem shuttlecocklaw04_EventApart.calls (k : Nat) (a0_0 : Int) (a0_1 : Int) (P0_2_ : Nat → Prop) (A0_2 : Option Addr) (c0_2 : Nat) (l0_2 : List Int) (a0_3 : ByteArray) (a1_0 : Int) (a1_1 : Int) (P1_2_ : Nat → Prop) (A1_2 : Option Addr) (c1_2 : Nat) (l1_2 : List Int) (a1_3 : ByteArray) (r : Bool) (w : World) (hs0_2 : Kd.V (Kd.int .i64) 3 w w.heap.size (fun k_ => P0_2_ k_) (.slice A0_2 l0_2.length c0_2) l0_2) (hs1_2 : Kd.V (Kd.int .i64) 3 w w.heap.size (fun k_ => P1_2_ k_) (.slice A1_2 l1_2.length c1_2) l1_2) (h : shuttlecocklaw04_EventApart.f k a0_0 a0_1 l0_2 a0_3 a1_0 a1_1 l1_2 a1_3 = some r) :
    Calls Try.prog 6 #[.agg #[.int .i64 a0_0, .int .i64 a0_1, .slice A0_2 l0_2.length c0_2, .string a0_3], .agg #[.int .i64 a1_0, .int .i64 a1_1, .slice A1_2 l1_2.length c1_2, .string a1_3]] w fun e w' => e = .returned (.bool r) ∧ Below w.heap.size w w' := by
  have hu24 := Try.underlying24
  have HO0_2 := Aside0.mk (show Kd.V (Kd.int .i64) 3 w w.heap.size (fun k_ => ((P0_2_ k_ ∨ P1_2_ k_) ∨ w.heap.size ≤ k_)) (.slice A0_2 l0_2.length c0_2) l0_2 from Kd.V_mono hs0_2 (fun k_ hk => .inl (.inl hk)))
  have HO1_2 := Aside0.mk (show Kd.V (Kd.int .i64) 3 w w.heap.size (fun k_ => ((P0_2_ k_ ∨ P1_2_ k_) ∨ w.heap.size ≤ k_)) (.slice A1_2 l1_2.length c1_2) l1_2 from Kd.V_mono hs1_2 (fun k_ hk => .inl (.inr hk)))
  have HB := Aside0.mk (Below.refl w.heap.size w)
  have H : ((shuttlecocklaw04_fixed.f k).bind fun t448 => (if t448 = true then ((shuttlecockref04_Short.f k (([(⟨a0_0, a0_1, l0_2, a0_3⟩ : S24), (⟨a1_0, a1_1, l1_2, a1_3⟩ : S24)] : List (S24)))).bind fun t452 => (if t452 = true then ((event_May.f a0_0 a0_1 l0_2 a0_3).bind fun t453 => (if t453 = true then ((event_May.f a1_0 a1_1 l1_2 a1_3).bind fun t454 => (shuttlecocklaw04_EventApart.j0 k (!t454) a0_0 a0_1 l0_2 a0_3 a1_0 a1_1 l1_2 a1_3)) else (shuttlecocklaw04_EventApart.j0 k true a0_0 a0_1 l0_2 a0_3 a1_0 a1_1 l1_2 a1_3))) else (shuttlecocklaw04_EventApart.j0 k true a0_0 a0_1 l0_2 a0_3 a1_0 a1_1 l1_2 a1_3))) else (shuttlecocklaw04_EventApart.j0 k true a0_0 a0_1 l0_2 a0_3 a1_0 a1_1 l1_2 a1_3))) = some r := h
  clear h
  have HC3 := Aside0.mk H
  clear H
  go_enter Try.func6, Try.ntmps6
  go_upto_region 1 with (first | ((with_reducible refine gate_dst (N := 2) rfl ?_); (try (refine gate_guard (by rfl) ?_; dsimp only)); refine box_event ?hg (N := 2) ?hd (cs := #[.int .i64 a0_0, .int .i64 a0_1, .slice A0_2 l0_2.length c0_2, .string a0_3]) (t := 24) ?hr ?_; (case hd => rfl); (case hg => rfl); (case hr => first | (go_simp; done) | (go_simp; rfl)); intro gb446 hg w4 hbox hb; have n0_ := Aside0.mk (Kd.V_below (Kd.V_elderB (by (with_reducible repeat (first | apply Kd.V_alloc | apply Kd.V_drewN | apply Kd.V_drew)); exact HO0_2.out) gb446 (Nat.le_of_eq hg.symm)) hb); have n1_ := Aside0.mk (Kd.V_below (Kd.V_elderB (by (with_reducible repeat (first | apply Kd.V_alloc | apply Kd.V_drewN | apply Kd.V_drew)); exact HO1_2.out) gb446 (Nat.le_of_eq hg.symm)) hb); have n2_ := Aside0.mk (below_step (by repeat (first | (with_reducible first | exact HB.out | apply below_alloc | apply pw_below_drewN | apply below_drew1) | exact HB.out | exact HBo.out)) hb); have n3_ := Aside0.mk (hbox); have n4_ := Aside0.mk ((by rw [hg]; exact (below_size (by repeat (first | (with_reducible first | exact HB.out | apply below_alloc | apply pw_below_drewN | apply below_drew1) | exact HB.out | exact HBo.out))) : w.heap.size ≤ gb446)); have n5_ := Aside0.mk ((by rw [hg]; exact (below_size (by repeat (first | (with_reducible first | exact HB.out | apply below_alloc | apply pw_below_drewN | apply below_drew1) | exact HB.out | exact HBo.out))) : w.heap.size ≤ gb446)); clear HO0_2; clear HO1_2; clear HB; have HO0_2 := n0_; have HO1_2 := n1_; have HB := n2_; have BK446 := n3_; have GW446 := n4_; have GE446 := n5_; clear n0_ n1_ n2_ n3_ n4_ n5_; clear hb hbox hg) | ((with_reducible refine gate_dst (N := 3) rfl ?_); (try (refine gate_guard (by rfl) ?_; dsimp only)); refine box_event ?hg (N := 3) ?hd (cs := #[.int .i64 a1_0, .int .i64 a1_1, .slice A1_2 l1_2.length c1_2, .string a1_3]) (t := 24) ?hr ?_; (case hd => rfl); (case hg => rfl); (case hr => first | (go_simp; done) | (go_simp; rfl)); intro gb447 hg w5 hbox hb; have n0_ := Aside0.mk (Kd.V_below (Kd.V_elderB (by (with_reducible repeat (first | apply Kd.V_alloc | apply Kd.V_drewN | apply Kd.V_drew)); exact HO0_2.out) gb447 (Nat.le_of_eq hg.symm)) hb); have n1_ := Aside0.mk (Kd.V_below (Kd.V_elderB (by (with_reducible repeat (first | apply Kd.V_alloc | apply Kd.V_drewN | apply Kd.V_drew)); exact HO1_2.out) gb447 (Nat.le_of_eq hg.symm)) hb); have n2_ := Aside0.mk (blk_below (g := gb446) (o := .cells #[.int .i64 a0_0, .int .i64 a0_1, .slice A0_2 l0_2.length c0_2, .string a0_3] 24 (0, 0)) (by (with_reducible repeat (first | refine blk_drewN ?_ _ | refine blk_drew ?_ | refine blk_alloc ?_ _)); exact BK446.out) hb); have n3_ := Aside0.mk (below_step (by repeat (first | (with_reducible first | exact HB.out | apply below_alloc | apply pw_below_drewN | apply below_drew1 | refine below_set ?_ GE446.out) | exact HB.out | exact HBo.out)) hb); have n4_ := Aside0.mk (hbox); have n5_ := Aside0.mk ((by rw [hg]; exact (below_size (by repeat (first | (with_reducible first | exact HB.out | apply below_alloc | apply pw_below_drewN | apply below_drew1 | refine below_set ?_ GE446.out) | exact HB.out | exact HBo.out))) : w.heap.size ≤ gb447)); have n6_ := Aside0.mk ((by rw [hg]; exact (below_size (by repeat (first | (with_reducible first | exact HB.out | apply below_alloc | apply pw_below_drewN | apply below_drew1 | refine below_set ?_ GE446.out) | exact HB.out | exact HBo.out))) : w.heap.size ≤ gb447)); have n7_ := Aside0.mk ((by rw [hg]; exact Nat.ne_of_lt (blk_lt (g := gb446) (o := .cells #[.int .i64 a0_0, .int .i64 a0_1, .slice A0_2 l0_2.length c0_2, .string a0_3] 24 (0, 0)) (by (with_reducible repeat (first | refine blk_drewN ?_ _ | refine blk_drew ?_ | refine blk_alloc ?_ _)); exact BK446.out)) : gb446 ≠ gb447)); have n8_ := Aside0.mk ((by rw [hg]; exact Nat.ne_of_gt (blk_lt (g := gb446) (o := .cells #[.int .i64 a0_0, .int .i64 a0_1, .slice A0_2 l0_2.length c0_2, .string a0_3] 24 (0, 0)) (by (with_reducible repeat (first | refine blk_drewN ?_ _ | refine blk_drew ?_ | refine blk_alloc ?_ _)); exact BK446.out)) : gb447 ≠ gb446)); clear HO0_2; clear HO1_2; clear BK446; clear HB; have HO0_2 := n0_; have HO1_2 := n1_; have BK446 := n2_; have HB := n3_; have BK447 := n4_; have GW447 := n5_; have GE447 := n6_; have NB446_447 := n7_; have NB447_446 := n8_; clear n0_ n1_ n2_ n3_ n4_ n5_ n6_ n7_ n8_; clear hb hbox hg))
  (try simp only [Act.put, List.setIfInBounds_toArray, List.set_cons_zero, List.set_cons_succ])
  go_cut [23] (fun v23 wc => ∃ (kq : Nat) (x23_2 : Bool), v23 = .bool x23_2 ∧ Aside0 (shuttlecocklaw04_EventApart.j0 kq x23_2 a0_0 a0_1 l0_2 a0_3 a1_0 a1_1 l1_2 a1_3 = some r) ∧ Aside0 (kq ≤ k) ∧ Aside0 (Kd.V (Kd.int .i64) 3 wc w.heap.size (fun k_ => ((P0_2_ k_ ∨ P1_2_ k_) ∨ w.heap.size ≤ k_) ∧ k_ ≠ gb446 ∧ k_ ≠ gb447) (.slice A0_2 l0_2.length c0_2) l0_2) ∧ Aside0 (Kd.V (Kd.int .i64) 3 wc w.heap.size (fun k_ => ((P0_2_ k_ ∨ P1_2_ k_) ∨ w.heap.size ≤ k_) ∧ k_ ≠ gb446 ∧ k_ ≠ gb447) (.slice A1_2 l1_2.length c1_2) l1_2) ∧ Aside0 (wc.heap[gb446]? = some (.cells #[.int .i64 a0_0, .int .i64 a0_1, (.slice A0_2 l0_2.length c0_2), .string a0_3] 24 (0, 0))) ∧ Aside0 (wc.heap[gb447]? = some (.cells #[.int .i64 a1_0, .int .i64 a1_1, (.slice A1_2 l1_2.length c1_2), .string a1_3] 24 (0, 0))) ∧ Aside0 (Below w.heap.size w wc))
  case first =>
    have H := HC3.out
    clear HC3
    replace H := Option.bind_eq_some_iff.mp H
    obtain ⟨t448, A60, H⟩ := H
    replace H : (if t448 = true then ((shuttlecockref04_Short.f k (([(⟨a0_0, a0_1, l0_2, a0_3⟩ : S24), (⟨a1_0, a1_1, l1_2, a1_3⟩ : S24)] : List (S24)))).bind fun t452 => (if t452 = true then ((event_May.f a0_0 a0_1 l0_2 a0_3).bind fun t453 => (if t453 = true then ((event_May.f a1_0 a1_1 l1_2 a1_3).bind fun t454 => (shuttlecocklaw04_EventApart.j0 k (!t454) a0_0 a0_1 l0_2 a0_3 a1_0 a1_1 l1_2 a1_3)) else (shuttlecocklaw04_EventApart.j0 k true a0_0 a0_1 l0_2 a0_3 a1_0 a1_1 l1_2 a1_3))) else (shuttlecocklaw04_EventApart.j0 k true a0_0 a0_1 l0_2 a0_3 a1_0 a1_1 l1_2 a1_3))) else (shuttlecocklaw04_EventApart.j0 k true a0_0 a0_1 l0_2 a0_3 a1_0 a1_1 l1_2 a1_3)) = some r := H
    have A6 := Aside0.mk A60
    clear A60
    by_cases c7 : t448 = true
    · subst c7
      have H1 : ((shuttlecockref04_Short.f k (([(⟨a0_0, a0_1, l0_2, a0_3⟩ : S24), (⟨a1_0, a1_1, l1_2, a1_3⟩ : S24)] : List (S24)))).bind fun t452 => (if t452 = true then ((event_May.f a0_0 a0_1 l0_2 a0_3).bind fun t453 => (if t453 = true then ((event_May.f a1_0 a1_1 l1_2 a1_3).bind fun t454 => (shuttlecocklaw04_EventApart.j0 k (!t454) a0_0 a0_1 l0_2 a0_3 a1_0 a1_1 l1_2 a1_3)) else (shuttlecocklaw04_EventApart.j0 k true a0_0 a0_1 l0_2 a0_3 a1_0 a1_1 l1_2 a1_3))) else (shuttlecocklaw04_EventApart.j0 k true a0_0 a0_1 l0_2 a0_3 a1_0 a1_1 l1_2 a1_3))) = some r := by rw [if_pos rfl] at H; exact H
      clear H
      have H := H1
      clear H1
      obtain ⟨y449, hy449⟩ : ∃ y_ : List (S24), y_ = (([(⟨a0_0, a0_1, l0_2, a0_3⟩ : S24), (⟨a1_0, a1_1, l1_2, a1_3⟩ : S24)] : List (S24))) := ⟨_, rfl⟩
      replace H : ((shuttlecockref04_Short.f k y449).bind fun t452 => (if t452 = true then ((event_May.f a0_0 a0_1 l0_2 a0_3).bind fun t453 => (if t453 = true then ((event_May.f a1_0 a1_1 l1_2 a1_3).bind fun t454 => (shuttlecocklaw04_EventApart.j0 k (!t454) a0_0 a0_1 l0_2 a0_3 a1_0 a1_1 l1_2 a1_3)) else (shuttlecocklaw04_EventApart.j0 k true a0_0 a0_1 l0_2 a0_3 a1_0 a1_1 l1_2 a1_3))) else (shuttlecocklaw04_EventApart.j0 k true a0_0 a0_1 l0_2 a0_3 a1_0 a1_1 l1_2 a1_3))) = some r := by first | (rw [hy449]; with_reducible exact H) | (have H2_ := (Option.bind_some _ _).symm.trans H; rw [hy449]; with_reducible exact H2_) | (have H2_ := (Option.bind_some _ _).symm.trans H; with_reducible exact H2_) | with_reducible exact H | (rw [hy449]; exact H) | exact H
      have Ny449 := Aside0.mk hy449
      clear hy449
      replace H := Option.bind_eq_some_iff.mp H
      obtain ⟨t452, A80, H⟩ := H
      replace H : (if t452 = true then ((event_May.f a0_0 a0_1 l0_2 a0_3).bind fun t453 => (if t453 = true then ((event_May.f a1_0 a1_1 l1_2 a1_3).bind fun t454 => (shuttlecocklaw04_EventApart.j0 k (!t454) a0_0 a0_1 l0_2 a0_3 a1_0 a1_1 l1_2 a1_3)) else (shuttlecocklaw04_EventApart.j0 k true a0_0 a0_1 l0_2 a0_3 a1_0 a1_1 l1_2 a1_3))) else (shuttlecocklaw04_EventApart.j0 k true a0_0 a0_1 l0_2 a0_3 a1_0 a1_1 l1_2 a1_3)) = some r := H
      have A8 := Aside0.mk A80
      clear A80
      by_cases c9 : t452 = true
      · subst c9
        have H1 : ((event_May.f a0_0 a0_1 l0_2 a0_3).bind fun t453 => (if t453 = true then ((event_May.f a1_0 a1_1 l1_2 a1_3).bind fun t454 => (shuttlecocklaw04_EventApart.j0 k (!t454) a0_0 a0_1 l0_2 a0_3 a1_0 a1_1 l1_2 a1_3)) else (shuttlecocklaw04_EventApart.j0 k true a0_0 a0_1 l0_2 a0_3 a1_0 a1_1 l1_2 a1_3))) = some r := by rw [if_pos rfl] at H; exact H
        clear H
        have H := H1
        clear H1
        replace H := Option.bind_eq_some_iff.mp H
        obtain ⟨t453, A100, H⟩ := H
        replace H : (if t453 = true then ((event_May.f a1_0 a1_1 l1_2 a1_3).bind fun t454 => (shuttlecocklaw04_EventApart.j0 k (!t454) a0_0 a0_1 l0_2 a0_3 a1_0 a1_1 l1_2 a1_3)) else (shuttlecocklaw04_EventApart.j0 k true a0_0 a0_1 l0_2 a0_3 a1_0 a1_1 l1_2 a1_3)) = some r := H
        have A10 := Aside0.mk A100
        clear A100
        by_cases c11 : t453 = true
        · subst c11
          have H1 : ((event_May.f a1_0 a1_1 l1_2 a1_3).bind fun t454 => (shuttlecocklaw04_EventApart.j0 k (!t454) a0_0 a0_1 l0_2 a0_3 a1_0 a1_1 l1_2 a1_3)) = some r := by rw [if_pos rfl] at H; exact H
          clear H
          have H := H1
          clear H1
          replace H := Option.bind_eq_some_iff.mp H
          obtain ⟨t454, A120, H⟩ := H
          replace H : (shuttlecocklaw04_EventApart.j0 k (!t454) a0_0 a0_1 l0_2 a0_3 a1_0 a1_1 l1_2 a1_3) = some r := H
          have A12 := Aside0.mk A120
          clear A120
          have H' := Aside0.mk H
          clear H
          go_wp2_with (first | ((with_reducible refine gate_callee (f := 9) rfl ?_); refine goesL_ (some 5) rfl rfl Try.func9 (by kernel_rfl) rfl #[] rfl (by (try simp only [List.map_toArray, List.map_cons, List.map_nil]); first | done | rfl | (simp only [List.length_drop, List.length_take]; rfl)) ?_; (with_reducible refine (shuttlecocklaw04_fixed.calls k  true _ A6.out).mono ?_); rintro e w13 ⟨rfl, hb⟩; refine ⟨_, rfl, ?_⟩; have n0_ := Aside0.mk (Kd.V_below (by (with_reducible repeat (first | apply Kd.V_alloc | apply Kd.V_drewN | apply Kd.V_drew)); exact HO0_2.out) hb); have n1_ := Aside0.mk (Kd.V_below (by (with_reducible repeat (first | apply Kd.V_alloc | apply Kd.V_drewN | apply Kd.V_drew)); exact HO1_2.out) hb); have n2_ := Aside0.mk (blk_below (g := gb446) (o := .cells #[.int .i64 a0_0, .int .i64 a0_1, .slice A0_2 l0_2.length c0_2, .string a0_3] 24 (0, 0)) (by (with_reducible repeat (first | refine blk_drewN ?_ _ | refine blk_drew ?_ | refine blk_alloc ?_ _)); exact BK446.out) hb); have n3_ := Aside0.mk (blk_below (g := gb447) (o := .cells #[.int .i64 a1_0, .int .i64 a1_1, .slice A1_2 l1_2.length c1_2, .string a1_3] 24 (0, 0)) (by (with_reducible repeat (first | refine blk_drewN ?_ _ | refine blk_drew ?_ | refine blk_alloc ?_ _)); exact BK447.out) hb); have n4_ := Aside0.mk (below_step (by repeat (first | (with_reducible first | exact HB.out | apply below_alloc | apply pw_below_drewN | apply below_drew1 | refine below_set ?_ GE446.out | refine below_set ?_ GE447.out) | exact HB.out | exact HBo.out)) hb); clear HO0_2; clear HO1_2; clear BK446; clear BK447; clear HB; have HO0_2 := n0_; have HO1_2 := n1_; have BK446 := n2_; have BK447 := n3_; have HB := n4_; clear n0_ n1_ n2_ n3_ n4_; (try clear hb); (try clear hb2); (try clear hk); (try clear hi); have hnb14 := NB446_447.out; have hnc14 := NB447_446.out; have hcz15_0 : w13.cell? ⟨gb446, 0, none⟩ = some (.int .i64 a0_0) := (blk_cell BK446.out 0).trans rfl; have hcz15_1 : w13.cell? ⟨gb446, 1, none⟩ = some (.int .i64 a0_1) := (blk_cell BK446.out 1).trans rfl; have hcz15_2 : w13.cell? ⟨gb446, 2, none⟩ = some (.slice A0_2 l0_2.length c0_2) := (blk_cell BK446.out 2).trans rfl; have hcz15_3 : w13.cell? ⟨gb446, 3, none⟩ = some (.string a0_3) := (blk_cell BK446.out 3).trans rfl; have hfz15_0 := blk_frozen BK446.out 0; have hfz15_1 := blk_frozen BK446.out 1; have hfz15_2 := blk_frozen BK446.out 2; have hfz15_3 := blk_frozen BK446.out 3; have hcz16_0 : w13.cell? ⟨gb447, 0, none⟩ = some (.int .i64 a1_0) := (blk_cell BK447.out 0).trans rfl; have hcz16_1 : w13.cell? ⟨gb447, 1, none⟩ = some (.int .i64 a1_1) := (blk_cell BK447.out 1).trans rfl; have hcz16_2 : w13.cell? ⟨gb447, 2, none⟩ = some (.slice A1_2 l1_2.length c1_2) := (blk_cell BK447.out 2).trans rfl; have hcz16_3 : w13.cell? ⟨gb447, 3, none⟩ = some (.string a1_3) := (blk_cell BK447.out 3).trans rfl; have hfz16_0 := blk_frozen BK447.out 0; have hfz16_1 := blk_frozen BK447.out 1; have hfz16_2 := blk_frozen BK447.out 2; have hfz16_3 := blk_frozen BK447.out 3) | ((with_reducible refine gate_dst (N := 10) rfl ?_); (try (refine gate_guard (by rfl) ?_; dsimp only)); refine Kd.N_lit k24 _ 24 ?hg (N' := 10) ?hd (xs := ([(⟨a0_0, a0_1, l0_2, a0_3⟩ : S24), (⟨a1_0, a1_1, l1_2, a1_3⟩ : S24)] : List (S24))) (inner := [.int .i64 a0_0, .int .i64 a0_1, .slice A0_2 l0_2.length c0_2, .string a0_3, .int .i64 a1_0, .int .i64 a1_1, .slice A1_2 l1_2.length c1_2, .string a1_3]) (ok := (fun k_ => ((P0_2_ k_ ∨ P1_2_ k_) ∨ w.heap.size ≤ k_) ∧ k_ ≠ gb446 ∧ k_ ≠ gb447)) (okp := (fun k_ => ((P0_2_ k_ ∨ P1_2_ k_) ∨ w.heap.size ≤ k_) ∧ k_ ≠ gb446 ∧ k_ ≠ gb447)) ?hr ?hp (fun _ hk => hk) ((show ∀ k_, w13.heap.size ≤ k_ → (fun k_ => ((P0_2_ k_ ∨ P1_2_ k_) ∨ w.heap.size ≤ k_) ∧ k_ ≠ gb446 ∧ k_ ≠ gb447) k_ from fun k_ hk => ⟨(.inr (Nat.le_trans (below_size (by repeat (first | (with_reducible first | exact HB.out | apply below_alloc | apply pw_below_drewN | apply below_drew1 | refine below_set ?_ GE446.out | refine below_set ?_ GE447.out) | exact HB.out | exact HBo.out))) hk)), Kd.freshB (g := gb446) (o := .cells #[.int .i64 a0_0, .int .i64 a0_1, .slice A0_2 l0_2.length c0_2, .string a0_3] 24 (0, 0)) (by (with_reducible repeat (first | refine blk_drewN ?_ _ | refine blk_drew ?_ | refine blk_alloc ?_ _)); exact BK446.out) k_ hk, Kd.freshB (g := gb447) (o := .cells #[.int .i64 a1_0, .int .i64 a1_1, .slice A1_2 l1_2.length c1_2, .string a1_3] 24 (0, 0)) (by (with_reducible repeat (first | refine blk_drewN ?_ _ | refine blk_drew ?_ | refine blk_alloc ?_ _)); exact BK447.out) k_ hk⟩) _ (Nat.le_refl _)) (Below.refl _ _) (Nat.le_refl _) (by simp) ?_; (case hd => rfl); (case hg => rfl); (case hr => first | (go_simp; done) | (go_simp; rfl)); (case hp => exact (Reps.c4 (show Kd.FK k24 _ _ (⟨a0_0, a0_1, l0_2, a0_3⟩ : S24) [.int .i64 a0_0, .int .i64 a0_1, .slice A0_2 l0_2.length c0_2, .string a0_3] from (k24_mkF _ _ (⟨a0_0, a0_1, l0_2, a0_3⟩ : S24) (Kd.V_reads' (Kd.V_mono (ok' := (fun k_ => ((P0_2_ k_ ∨ P1_2_ k_) ∨ w.heap.size ≤ k_) ∧ k_ ≠ gb446 ∧ k_ ≠ gb447)) (HO0_2.out) (fun k_ hk => ⟨hk.1.1, ⟨hk.1.2, hk.2⟩⟩))).2.1 (Kd.V_F (Kd.V_mono (ok' := (fun k_ => ((P0_2_ k_ ∨ P1_2_ k_) ∨ w.heap.size ≤ k_) ∧ k_ ≠ gb446 ∧ k_ ≠ gb447)) (HO0_2.out) (fun k_ hk => ⟨hk.1.1, ⟨hk.1.2, hk.2⟩⟩))))) (Reps.c4 (show Kd.FK k24 _ _ (⟨a1_0, a1_1, l1_2, a1_3⟩ : S24) [.int .i64 a1_0, .int .i64 a1_1, .slice A1_2 l1_2.length c1_2, .string a1_3] from (k24_mkF _ _ (⟨a1_0, a1_1, l1_2, a1_3⟩ : S24) (Kd.V_reads' (Kd.V_mono (ok' := (fun k_ => ((P0_2_ k_ ∨ P1_2_ k_) ∨ w.heap.size ≤ k_) ∧ k_ ≠ gb446 ∧ k_ ≠ gb447)) (HO1_2.out) (fun k_ hk => ⟨hk.1.1, ⟨hk.1.2, hk.2⟩⟩))).2.1 (Kd.V_F (Kd.V_mono (ok' := (fun k_ => ((P0_2_ k_ ∨ P1_2_ k_) ∨ w.heap.size ≤ k_) ∧ k_ ≠ gb446 ∧ k_ ≠ gb447)) (HO1_2.out) (fun k_ hk => ⟨hk.1.1, ⟨hk.1.2, hk.2⟩⟩))))) (Reps.none _ _)))); intro v450 w17 ho18 hb hg_ hnew_; clear hg_ hnew_; (first | rw [← Ny449.out] at ho18 | (simp only [Int.reduceToNat] at ho18; rw [← Ny449.out] at ho18)); have n0_ := Aside0.mk (Kd.V_elder' (by (with_reducible repeat (first | apply Kd.V_alloc | apply Kd.V_drewN | apply Kd.V_drew)); exact HO0_2.out) (Kd.N_base ho18) hb); have n1_ := Aside0.mk (Kd.V_elder' (by (with_reducible repeat (first | apply Kd.V_alloc | apply Kd.V_drewN | apply Kd.V_drew)); exact HO1_2.out) (Kd.N_base ho18) hb); have n2_ := Aside0.mk (Kd.N_lower ho18 (below_size (by repeat (first | (with_reducible first | exact HB.out | apply below_alloc | apply pw_below_drewN | apply below_drew1 | refine below_set ?_ GE446.out | refine below_set ?_ GE447.out) | exact HB.out | exact HBo.out)))); have n3_ := Aside0.mk (blk_below (g := gb446) (o := .cells #[.int .i64 a0_0, .int .i64 a0_1, .slice A0_2 l0_2.length c0_2, .string a0_3] 24 (0, 0)) (by (with_reducible repeat (first | refine blk_drewN ?_ _ | refine blk_drew ?_ | refine blk_alloc ?_ _)); exact BK446.out) hb); have n4_ := Aside0.mk (blk_below (g := gb447) (o := .cells #[.int .i64 a1_0, .int .i64 a1_1, .slice A1_2 l1_2.length c1_2, .string a1_3] 24 (0, 0)) (by (with_reducible repeat (first | refine blk_drewN ?_ _ | refine blk_drew ?_ | refine blk_alloc ?_ _)); exact BK447.out) hb); have n5_ := Aside0.mk (below_step (by repeat (first | (with_reducible first | exact HB.out | apply below_alloc | apply pw_below_drewN | apply below_drew1 | refine below_set ?_ GE446.out | refine below_set ?_ GE447.out) | exact HB.out | exact HBo.out)) hb); clear HO0_2; clear HO1_2; clear BK446; clear BK447; clear HB; have HO0_2 := n0_; have HO1_2 := n1_; have HO451 := n2_; have BK446 := n3_; have BK447 := n4_; have HB := n5_; clear n0_ n1_ n2_ n3_ n4_ n5_; clear hb ho18; obtain ⟨Ao19, co19, eo19⟩ := Kd.N_slice HO451.out; subst eo19) | (go_at_call 8; (with_reducible refine (shuttlecockref04_Short.calls k _ _ y449 true _ ?side1 ?side2 A8.out).mono ?_); (case side1 => repeat (first | exact (Kd.N_reads' HO451.out).2.2 | (with_reducible refine Kd.C_alloc ?_ _) | (with_reducible refine Kd.C_drewN ?_ _) | (with_reducible refine Kd.C_drew ?_))); (case side2 => exact (Kd.N_reads' HO451.out).2.1); rintro e w' ⟨rfl, ⟨nd, rfl⟩⟩; have hcz20_0 : w17.cell? ⟨gb446, 0, none⟩ = some (.int .i64 a0_0) := (blk_cell BK446.out 0).trans rfl; have hcz20_1 : w17.cell? ⟨gb446, 1, none⟩ = some (.int .i64 a0_1) := (blk_cell BK446.out 1).trans rfl; have hcz20_2 : w17.cell? ⟨gb446, 2, none⟩ = some (.slice A0_2 l0_2.length c0_2) := (blk_cell BK446.out 2).trans rfl; have hcz20_3 : w17.cell? ⟨gb446, 3, none⟩ = some (.string a0_3) := (blk_cell BK446.out 3).trans rfl; have hfz20_0 := blk_frozen BK446.out 0; have hfz20_1 := blk_frozen BK446.out 1; have hfz20_2 := blk_frozen BK446.out 2; have hfz20_3 := blk_frozen BK446.out 3) | (go_at_call 12; (with_reducible refine (event_May.calls a0_0 a0_1 _ _ l0_2 a0_3 true _ ?side1 ?side2 A10.out).mono ?_); (case side1 => repeat (first | exact (Kd.V_reads' HO0_2.out).2.2 | (with_reducible refine Kd.C_alloc ?_ _) | (with_reducible refine Kd.C_drewN ?_ _) | (with_reducible refine Kd.C_drew ?_))); (case side2 => exact (Kd.V_reads' HO0_2.out).2.1); rintro e w21 ⟨rfl, hb⟩; have n0_ := Aside0.mk (Kd.V_below (by (with_reducible repeat (first | apply Kd.V_alloc | apply Kd.V_drewN | apply Kd.V_drew)); exact HO0_2.out) hb); have n1_ := Aside0.mk (Kd.V_below (by (with_reducible repeat (first | apply Kd.V_alloc | apply Kd.V_drewN | apply Kd.V_drew)); exact HO1_2.out) hb); have n2_ := Aside0.mk (Kd.N_below (by (with_reducible repeat (first | apply Kd.N_alloc | apply Kd.N_drewN | apply Kd.N_drew)); exact HO451.out) hb); have n3_ := Aside0.mk (blk_below (g := gb446) (o := .cells #[.int .i64 a0_0, .int .i64 a0_1, .slice A0_2 l0_2.length c0_2, .string a0_3] 24 (0, 0)) (by (with_reducible repeat (first | refine blk_drewN ?_ _ | refine blk_drew ?_ | refine blk_alloc ?_ _)); exact BK446.out) hb); have n4_ := Aside0.mk (blk_below (g := gb447) (o := .cells #[.int .i64 a1_0, .int .i64 a1_1, .slice A1_2 l1_2.length c1_2, .string a1_3] 24 (0, 0)) (by (with_reducible repeat (first | refine blk_drewN ?_ _ | refine blk_drew ?_ | refine blk_alloc ?_ _)); exact BK447.out) hb); have n5_ := Aside0.mk (below_step (by repeat (first | (with_reducible first | exact HB.out | apply below_alloc | apply pw_below_drewN | apply below_drew1 | refine below_set ?_ GE446.out | refine below_set ?_ GE447.out) | exact HB.out | exact HBo.out)) hb); clear HO0_2; clear HO1_2; clear HO451; clear BK446; clear BK447; clear HB; have HO0_2 := n0_; have HO1_2 := n1_; have HO451 := n2_; have BK446 := n3_; have BK447 := n4_; have HB := n5_; clear n0_ n1_ n2_ n3_ n4_ n5_; (try clear hb); (try clear hb2); (try clear hk); (try clear hi); have hcz22_0 : w21.cell? ⟨gb447, 0, none⟩ = some (.int .i64 a1_0) := (blk_cell BK447.out 0).trans rfl; have hcz22_1 : w21.cell? ⟨gb447, 1, none⟩ = some (.int .i64 a1_1) := (blk_cell BK447.out 1).trans rfl; have hcz22_2 : w21.cell? ⟨gb447, 2, none⟩ = some (.slice A1_2 l1_2.length c1_2) := (blk_cell BK447.out 2).trans rfl; have hcz22_3 : w21.cell? ⟨gb447, 3, none⟩ = some (.string a1_3) := (blk_cell BK447.out 3).trans rfl; have hfz22_0 := blk_frozen BK447.out 0; have hfz22_1 := blk_frozen BK447.out 1; have hfz22_2 := blk_frozen BK447.out 2; have hfz22_3 := blk_frozen BK447.out 3) | (go_at_call 12; (with_reducible refine (event_May.calls a1_0 a1_1 _ _ l1_2 a1_3 t454 _ ?side1 ?side2 A12.out).mono ?_); (case side1 => repeat (first | exact (Kd.V_reads' HO1_2.out).2.2 | (with_reducible refine Kd.C_alloc ?_ _) | (with_reducible refine Kd.C_drewN ?_ _) | (with_reducible refine Kd.C_drew ?_))); (case side2 => exact (Kd.V_reads' HO1_2.out).2.1); rintro e w23 ⟨rfl, hb⟩; have n0_ := Aside0.mk (Kd.V_below (by (with_reducible repeat (first | apply Kd.V_alloc | apply Kd.V_drewN | apply Kd.V_drew)); exact HO0_2.out) hb); have n1_ := Aside0.mk (Kd.V_below (by (with_reducible repeat (first | apply Kd.V_alloc | apply Kd.V_drewN | apply Kd.V_drew)); exact HO1_2.out) hb); have n2_ := Aside0.mk (Kd.N_below (by (with_reducible repeat (first | apply Kd.N_alloc | apply Kd.N_drewN | apply Kd.N_drew)); exact HO451.out) hb); have n3_ := Aside0.mk (blk_below (g := gb446) (o := .cells #[.int .i64 a0_0, .int .i64 a0_1, .slice A0_2 l0_2.length c0_2, .string a0_3] 24 (0, 0)) (by (with_reducible repeat (first | refine blk_drewN ?_ _ | refine blk_drew ?_ | refine blk_alloc ?_ _)); exact BK446.out) hb); have n4_ := Aside0.mk (blk_below (g := gb447) (o := .cells #[.int .i64 a1_0, .int .i64 a1_1, .slice A1_2 l1_2.length c1_2, .string a1_3] 24 (0, 0)) (by (with_reducible repeat (first | refine blk_drewN ?_ _ | refine blk_drew ?_ | refine blk_alloc ?_ _)); exact BK447.out) hb); have n5_ := Aside0.mk (below_step (by repeat (first | (with_reducible first | exact HB.out | apply below_alloc | apply pw_below_drewN | apply below_drew1 | refine below_set ?_ GE446.out | refine below_set ?_ GE447.out) | exact HB.out | exact HBo.out)) hb); clear HO0_2; clear HO1_2; clear HO451; clear BK446; clear BK447; clear HB; have HO0_2 := n0_; have HO1_2 := n1_; have HO451 := n2_; have BK446 := n3_; have BK447 := n4_; have HB := n5_; clear n0_ n1_ n2_ n3_ n4_ n5_; (try clear hb); (try clear hb2); (try clear hk); (try clear hi)))
          go_meet
          case rel => exact ⟨_, (!t454), (by first | rfl | (simp; done) | (simp [*]; done)), H', ⟨by first | omega | exact Nat.le_refl _⟩, ⟨by (with_reducible repeat (first | apply Kd.V_alloc | apply Kd.V_drewN | apply Kd.V_drew)); exact Kd.V_mono HO0_2.out (fun _ hk => ⟨hk.1.1.1, ⟨hk.1.1.2, hk.1.2⟩⟩)⟩, ⟨by (with_reducible repeat (first | apply Kd.V_alloc | apply Kd.V_drewN | apply Kd.V_drew)); exact Kd.V_mono HO1_2.out (fun _ hk => ⟨hk.1.1.1, ⟨hk.1.1.2, hk.1.2⟩⟩)⟩, ⟨by (with_reducible repeat (first | refine blk_drewN ?_ _ | refine blk_drew ?_ | refine blk_alloc ?_ _)); exact BK446.out⟩, ⟨by (with_reducible repeat (first | refine blk_drewN ?_ _ | refine blk_drew ?_ | refine blk_alloc ?_ _)); exact BK447.out⟩, ⟨by repeat (first | (with_reducible first | exact HB.out | apply below_alloc | apply pw_below_drewN | apply below_drew1 | refine below_set ?_ GE446.out | refine below_set ?_ GE447.out) | exact HB.out | exact HBo.out)⟩⟩
        · replace c11 := Bool.eq_false_iff.mpr c11
          subst c11
          have H1 : (shuttlecocklaw04_EventApart.j0 k true a0_0 a0_1 l0_2 a0_3 a1_0 a1_1 l1_2 a1_3) = some r := by rw [if_neg (show ¬ (false = true) by decide)] at H; exact H
          clear H
          have H := H1
          clear H1
          have H' := Aside0.mk H
          clear H
          go_wp2_with (first | ((with_reducible refine gate_callee (f := 9) rfl ?_); refine goesL_ (some 5) rfl rfl Try.func9 (by kernel_rfl) rfl #[] rfl (by (try simp only [List.map_toArray, List.map_cons, List.map_nil]); first | done | rfl | (simp only [List.length_drop, List.length_take]; rfl)) ?_; (with_reducible refine (shuttlecocklaw04_fixed.calls k  true _ A6.out).mono ?_); rintro e w24 ⟨rfl, hb⟩; refine ⟨_, rfl, ?_⟩; have n0_ := Aside0.mk (Kd.V_below (by (with_reducible repeat (first | apply Kd.V_alloc | apply Kd.V_drewN | apply Kd.V_drew)); exact HO0_2.out) hb); have n1_ := Aside0.mk (Kd.V_below (by (with_reducible repeat (first | apply Kd.V_alloc | apply Kd.V_drewN | apply Kd.V_drew)); exact HO1_2.out) hb); have n2_ := Aside0.mk (blk_below (g := gb446) (o := .cells #[.int .i64 a0_0, .int .i64 a0_1, .slice A0_2 l0_2.length c0_2, .string a0_3] 24 (0, 0)) (by (with_reducible repeat (first | refine blk_drewN ?_ _ | refine blk_drew ?_ | refine blk_alloc ?_ _)); exact BK446.out) hb); have n3_ := Aside0.mk (blk_below (g := gb447) (o := .cells #[.int .i64 a1_0, .int .i64 a1_1, .slice A1_2 l1_2.length c1_2, .string a1_3] 24 (0, 0)) (by (with_reducible repeat (first | refine blk_drewN ?_ _ | refine blk_drew ?_ | refine blk_alloc ?_ _)); exact BK447.out) hb); have n4_ := Aside0.mk (below_step (by repeat (first | (with_reducible first | exact HB.out | apply below_alloc | apply pw_below_drewN | apply below_drew1 | refine below_set ?_ GE446.out | refine below_set ?_ GE447.out) | exact HB.out | exact HBo.out)) hb); clear HO0_2; clear HO1_2; clear BK446; clear BK447; clear HB; have HO0_2 := n0_; have HO1_2 := n1_; have BK446 := n2_; have BK447 := n3_; have HB := n4_; clear n0_ n1_ n2_ n3_ n4_; (try clear hb); (try clear hb2); (try clear hk); (try clear hi); have hnb25 := NB446_447.out; have hnc25 := NB447_446.out; have hcz26_0 : w24.cell? ⟨gb446, 0, none⟩ = some (.int .i64 a0_0) := (blk_cell BK446.out 0).trans rfl; have hcz26_1 : w24.cell? ⟨gb446, 1, none⟩ = some (.int .i64 a0_1) := (blk_cell BK446.out 1).trans rfl; have hcz26_2 : w24.cell? ⟨gb446, 2, none⟩ = some (.slice A0_2 l0_2.length c0_2) := (blk_cell BK446.out 2).trans rfl; have hcz26_3 : w24.cell? ⟨gb446, 3, none⟩ = some (.string a0_3) := (blk_cell BK446.out 3).trans rfl; have hfz26_0 := blk_frozen BK446.out 0; have hfz26_1 := blk_frozen BK446.out 1; have hfz26_2 := blk_frozen BK446.out 2; have hfz26_3 := blk_frozen BK446.out 3; have hcz27_0 : w24.cell? ⟨gb447, 0, none⟩ = some (.int .i64 a1_0) := (blk_cell BK447.out 0).trans rfl; have hcz27_1 : w24.cell? ⟨gb447, 1, none⟩ = some (.int .i64 a1_1) := (blk_cell BK447.out 1).trans rfl; have hcz27_2 : w24.cell? ⟨gb447, 2, none⟩ = some (.slice A1_2 l1_2.length c1_2) := (blk_cell BK447.out 2).trans rfl; have hcz27_3 : w24.cell? ⟨gb447, 3, none⟩ = some (.string a1_3) := (blk_cell BK447.out 3).trans rfl; have hfz27_0 := blk_frozen BK447.out 0; have hfz27_1 := blk_frozen BK447.out 1; have hfz27_2 := blk_frozen BK447.out 2; have hfz27_3 := blk_frozen BK447.out 3) | ((with_reducible refine gate_dst (N := 10) rfl ?_); (try (refine gate_guard (by rfl) ?_; dsimp only)); refine Kd.N_lit k24 _ 24 ?hg (N' := 10) ?hd (xs := ([(⟨a0_0, a0_1, l0_2, a0_3⟩ : S24), (⟨a1_0, a1_1, l1_2, a1_3⟩ : S24)] : List (S24))) (inner := [.int .i64 a0_0, .int .i64 a0_1, .slice A0_2 l0_2.length c0_2, .string a0_3, .int .i64 a1_0, .int .i64 a1_1, .slice A1_2 l1_2.length c1_2, .string a1_3]) (ok := (fun k_ => ((P0_2_ k_ ∨ P1_2_ k_) ∨ w.heap.size ≤ k_) ∧ k_ ≠ gb446 ∧ k_ ≠ gb447)) (okp := (fun k_ => ((P0_2_ k_ ∨ P1_2_ k_) ∨ w.heap.size ≤ k_) ∧ k_ ≠ gb446 ∧ k_ ≠ gb447)) ?hr ?hp (fun _ hk => hk) ((show ∀ k_, w24.heap.size ≤ k_ → (fun k_ => ((P0_2_ k_ ∨ P1_2_ k_) ∨ w.heap.size ≤ k_) ∧ k_ ≠ gb446 ∧ k_ ≠ gb447) k_ from fun k_ hk => ⟨(.inr (Nat.le_trans (below_size (by repeat (first | (with_reducible first | exact HB.out | apply below_alloc | apply pw_below_drewN | apply below_drew1 | refine below_set ?_ GE446.out | refine below_set ?_ GE447.out) | exact HB.out | exact HBo.out))) hk)), Kd.freshB (g := gb446) (o := .cells #[.int .i64 a0_0, .int .i64 a0_1, .slice A0_2 l0_2.length c0_2, .string a0_3] 24 (0, 0)) (by (with_reducible repeat (first | refine blk_drewN ?_ _ | refine blk_drew ?_ | refine blk_alloc ?_ _)); exact BK446.out) k_ hk, Kd.freshB (g := gb447) (o := .cells #[.int .i64 a1_0, .int .i64 a1_1, .slice A1_2 l1_2.length c1_2, .string a1_3] 24 (0, 0)) (by (with_reducible repeat (first | refine blk_drewN ?_ _ | refine blk_drew ?_ | refine blk_alloc ?_ _)); exact BK447.out) k_ hk⟩) _ (Nat.le_refl _)) (Below.refl _ _) (Nat.le_refl _) (by simp) ?_; (case hd => rfl); (case hg => rfl); (case hr => first | (go_simp; done) | (go_simp; rfl)); (case hp => exact (Reps.c4 (show Kd.FK k24 _ _ (⟨a0_0, a0_1, l0_2, a0_3⟩ : S24) [.int .i64 a0_0, .int .i64 a0_1, .slice A0_2 l0_2.length c0_2, .string a0_3] from (k24_mkF _ _ (⟨a0_0, a0_1, l0_2, a0_3⟩ : S24) (Kd.V_reads' (Kd.V_mono (ok' := (fun k_ => ((P0_2_ k_ ∨ P1_2_ k_) ∨ w.heap.size ≤ k_) ∧ k_ ≠ gb446 ∧ k_ ≠ gb447)) (HO0_2.out) (fun k_ hk => ⟨hk.1.1, ⟨hk.1.2, hk.2⟩⟩))).2.1 (Kd.V_F (Kd.V_mono (ok' := (fun k_ => ((P0_2_ k_ ∨ P1_2_ k_) ∨ w.heap.size ≤ k_) ∧ k_ ≠ gb446 ∧ k_ ≠ gb447)) (HO0_2.out) (fun k_ hk => ⟨hk.1.1, ⟨hk.1.2, hk.2⟩⟩))))) (Reps.c4 (show Kd.FK k24 _ _ (⟨a1_0, a1_1, l1_2, a1_3⟩ : S24) [.int .i64 a1_0, .int .i64 a1_1, .slice A1_2 l1_2.length c1_2, .string a1_3] from (k24_mkF _ _ (⟨a1_0, a1_1, l1_2, a1_3⟩ : S24) (Kd.V_reads' (Kd.V_mono (ok' := (fun k_ => ((P0_2_ k_ ∨ P1_2_ k_) ∨ w.heap.size ≤ k_) ∧ k_ ≠ gb446 ∧ k_ ≠ gb447)) (HO1_2.out) (fun k_ hk => ⟨hk.1.1, ⟨hk.1.2, hk.2⟩⟩))).2.1 (Kd.V_F (Kd.V_mono (ok' := (fun k_ => ((P0_2_ k_ ∨ P1_2_ k_) ∨ w.heap.size ≤ k_) ∧ k_ ≠ gb446 ∧ k_ ≠ gb447)) (HO1_2.out) (fun k_ hk => ⟨hk.1.1, ⟨hk.1.2, hk.2⟩⟩))))) (Reps.none _ _)))); intro v450 w28 ho29 hb hg_ hnew_; clear hg_ hnew_; (first | rw [← Ny449.out] at ho29 | (simp only [Int.reduceToNat] at ho29; rw [← Ny449.out] at ho29)); have n0_ := Aside0.mk (Kd.V_elder' (by (with_reducible repeat (first | apply Kd.V_alloc | apply Kd.V_drewN | apply Kd.V_drew)); exact HO0_2.out) (Kd.N_base ho29) hb); have n1_ := Aside0.mk (Kd.V_elder' (by (with_reducible repeat (first | apply Kd.V_alloc | apply Kd.V_drewN | apply Kd.V_drew)); exact HO1_2.out) (Kd.N_base ho29) hb); have n2_ := Aside0.mk (Kd.N_lower ho29 (below_size (by repeat (first | (with_reducible first | exact HB.out | apply below_alloc | apply pw_below_drewN | apply below_drew1 | refine below_set ?_ GE446.out | refine below_set ?_ GE447.out) | exact HB.out | exact HBo.out)))); have n3_ := Aside0.mk (blk_below (g := gb446) (o := .cells #[.int .i64 a0_0, .int .i64 a0_1, .slice A0_2 l0_2.length c0_2, .string a0_3] 24 (0, 0)) (by (with_reducible repeat (first | refine blk_drewN ?_ _ | refine blk_drew ?_ | refine blk_alloc ?_ _)); exact BK446.out) hb); have n4_ := Aside0.mk (blk_below (g := gb447) (o := .cells #[.int .i64 a1_0, .int .i64 a1_1, .slice A1_2 l1_2.length c1_2, .string a1_3] 24 (0, 0)) (by (with_reducible repeat (first | refine blk_drewN ?_ _ | refine blk_drew ?_ | refine blk_alloc ?_ _)); exact BK447.out) hb); have n5_ := Aside0.mk (below_step (by repeat (first | (with_reducible first | exact HB.out | apply below_alloc | apply pw_below_drewN | apply below_drew1 | refine below_set ?_ GE446.out | refine below_set ?_ GE447.out) | exact HB.out | exact HBo.out)) hb); clear HO0_2; clear HO1_2; clear BK446; clear BK447; clear HB; have HO0_2 := n0_; have HO1_2 := n1_; have HO451 := n2_; have BK446 := n3_; have BK447 := n4_; have HB := n5_; clear n0_ n1_ n2_ n3_ n4_ n5_; clear hb ho29; obtain ⟨Ao30, co30, eo30⟩ := Kd.N_slice HO451.out; subst eo30) | (go_at_call 8; (with_reducible refine (shuttlecockref04_Short.calls k _ _ y449 true _ ?side1 ?side2 A8.out).mono ?_); (case side1 => repeat (first | exact (Kd.N_reads' HO451.out).2.2 | (with_reducible refine Kd.C_alloc ?_ _) | (with_reducible refine Kd.C_drewN ?_ _) | (with_reducible refine Kd.C_drew ?_))); (case side2 => exact (Kd.N_reads' HO451.out).2.1); rintro e w' ⟨rfl, ⟨nd, rfl⟩⟩; have hcz31_0 : w28.cell? ⟨gb446, 0, none⟩ = some (.int .i64 a0_0) := (blk_cell BK446.out 0).trans rfl; have hcz31_1 : w28.cell? ⟨gb446, 1, none⟩ = some (.int .i64 a0_1) := (blk_cell BK446.out 1).trans rfl; have hcz31_2 : w28.cell? ⟨gb446, 2, none⟩ = some (.slice A0_2 l0_2.length c0_2) := (blk_cell BK446.out 2).trans rfl; have hcz31_3 : w28.cell? ⟨gb446, 3, none⟩ = some (.string a0_3) := (blk_cell BK446.out 3).trans rfl; have hfz31_0 := blk_frozen BK446.out 0; have hfz31_1 := blk_frozen BK446.out 1; have hfz31_2 := blk_frozen BK446.out 2; have hfz31_3 := blk_frozen BK446.out 3) | (go_at_call 12; (with_reducible refine (event_May.calls a0_0 a0_1 _ _ l0_2 a0_3 false _ ?side1 ?side2 A10.out).mono ?_); (case side1 => repeat (first | exact (Kd.V_reads' HO0_2.out).2.2 | (with_reducible refine Kd.C_alloc ?_ _) | (with_reducible refine Kd.C_drewN ?_ _) | (with_reducible refine Kd.C_drew ?_))); (case side2 => exact (Kd.V_reads' HO0_2.out).2.1); rintro e w32 ⟨rfl, hb⟩; have n0_ := Aside0.mk (Kd.V_below (by (with_reducible repeat (first | apply Kd.V_alloc | apply Kd.V_drewN | apply Kd.V_drew)); exact HO0_2.out) hb); have n1_ := Aside0.mk (Kd.V_below (by (with_reducible repeat (first | apply Kd.V_alloc | apply Kd.V_drewN | apply Kd.V_drew)); exact HO1_2.out) hb); have n2_ := Aside0.mk (Kd.N_below (by (with_reducible repeat (first | apply Kd.N_alloc | apply Kd.N_drewN | apply Kd.N_drew)); exact HO451.out) hb); have n3_ := Aside0.mk (blk_below (g := gb446) (o := .cells #[.int .i64 a0_0, .int .i64 a0_1, .slice A0_2 l0_2.length c0_2, .string a0_3] 24 (0, 0)) (by (with_reducible repeat (first | refine blk_drewN ?_ _ | refine blk_drew ?_ | refine blk_alloc ?_ _)); exact BK446.out) hb); have n4_ := Aside0.mk (blk_below (g := gb447) (o := .cells #[.int .i64 a1_0, .int .i64 a1_1, .slice A1_2 l1_2.length c1_2, .string a1_3] 24 (0, 0)) (by (with_reducible repeat (first | refine blk_drewN ?_ _ | refine blk_drew ?_ | refine blk_alloc ?_ _)); exact BK447.out) hb); have n5_ := Aside0.mk (below_step (by repeat (first | (with_reducible first | exact HB.out | apply below_alloc | apply pw_below_drewN | apply below_drew1 | refine below_set ?_ GE446.out | refine below_set ?_ GE447.out) | exact HB.out | exact HBo.out)) hb); clear HO0_2; clear HO1_2; clear HO451; clear BK446; clear BK447; clear HB; have HO0_2 := n0_; have HO1_2 := n1_; have HO451 := n2_; have BK446 := n3_; have BK447 := n4_; have HB := n5_; clear n0_ n1_ n2_ n3_ n4_ n5_; (try clear hb); (try clear hb2); (try clear hk); (try clear hi)))
          go_meet
          case rel => exact ⟨_, (true), (by first | rfl | (simp; done) | (simp [*]; done)), H', ⟨by first | omega | exact Nat.le_refl _⟩, ⟨by (with_reducible repeat (first | apply Kd.V_alloc | apply Kd.V_drewN | apply Kd.V_drew)); exact Kd.V_mono HO0_2.out (fun _ hk => ⟨hk.1.1.1, ⟨hk.1.1.2, hk.1.2⟩⟩)⟩, ⟨by (with_reducible repeat (first | apply Kd.V_alloc | apply Kd.V_drewN | apply Kd.V_drew)); exact Kd.V_mono HO1_2.out (fun _ hk => ⟨hk.1.1.1, ⟨hk.1.1.2, hk.1.2⟩⟩)⟩, ⟨by (with_reducible repeat (first | refine blk_drewN ?_ _ | refine blk_drew ?_ | refine blk_alloc ?_ _)); exact BK446.out⟩, ⟨by (with_reducible repeat (first | refine blk_drewN ?_ _ | refine blk_drew ?_ | refine blk_alloc ?_ _)); exact BK447.out⟩, ⟨by repeat (first | (with_reducible first | exact HB.out | apply below_alloc | apply pw_below_drewN | apply below_drew1 | refine below_set ?_ GE446.out | refine below_set ?_ GE447.out) | exact HB.out | exact HBo.out)⟩⟩
      · replace c9 := Bool.eq_false_iff.mpr c9
        subst c9
        have H1 : (shuttlecocklaw04_EventApart.j0 k true a0_0 a0_1 l0_2 a0_3 a1_0 a1_1 l1_2 a1_3) = some r := by rw [if_neg (show ¬ (false = true) by decide)] at H; exact H
        clear H
        have H := H1
        clear H1
        have H' := Aside0.mk H
        clear H
        go_wp2_with (first | ((with_reducible refine gate_callee (f := 9) rfl ?_); refine goesL_ (some 5) rfl rfl Try.func9 (by kernel_rfl) rfl #[] rfl (by (try simp only [List.map_toArray, List.map_cons, List.map_nil]); first | done | rfl | (simp only [List.length_drop, List.length_take]; rfl)) ?_; (with_reducible refine (shuttlecocklaw04_fixed.calls k  true _ A6.out).mono ?_); rintro e w33 ⟨rfl, hb⟩; refine ⟨_, rfl, ?_⟩; have n0_ := Aside0.mk (Kd.V_below (by (with_reducible repeat (first | apply Kd.V_alloc | apply Kd.V_drewN | apply Kd.V_drew)); exact HO0_2.out) hb); have n1_ := Aside0.mk (Kd.V_below (by (with_reducible repeat (first | apply Kd.V_alloc | apply Kd.V_drewN | apply Kd.V_drew)); exact HO1_2.out) hb); have n2_ := Aside0.mk (blk_below (g := gb446) (o := .cells #[.int .i64 a0_0, .int .i64 a0_1, .slice A0_2 l0_2.length c0_2, .string a0_3] 24 (0, 0)) (by (with_reducible repeat (first | refine blk_drewN ?_ _ | refine blk_drew ?_ | refine blk_alloc ?_ _)); exact BK446.out) hb); have n3_ := Aside0.mk (blk_below (g := gb447) (o := .cells #[.int .i64 a1_0, .int .i64 a1_1, .slice A1_2 l1_2.length c1_2, .string a1_3] 24 (0, 0)) (by (with_reducible repeat (first | refine blk_drewN ?_ _ | refine blk_drew ?_ | refine blk_alloc ?_ _)); exact BK447.out) hb); have n4_ := Aside0.mk (below_step (by repeat (first | (with_reducible first | exact HB.out | apply below_alloc | apply pw_below_drewN | apply below_drew1 | refine below_set ?_ GE446.out | refine below_set ?_ GE447.out) | exact HB.out | exact HBo.out)) hb); clear HO0_2; clear HO1_2; clear BK446; clear BK447; clear HB; have HO0_2 := n0_; have HO1_2 := n1_; have BK446 := n2_; have BK447 := n3_; have HB := n4_; clear n0_ n1_ n2_ n3_ n4_; (try clear hb); (try clear hb2); (try clear hk); (try clear hi); have hnb34 := NB446_447.out; have hnc34 := NB447_446.out; have hcz35_0 : w33.cell? ⟨gb446, 0, none⟩ = some (.int .i64 a0_0) := (blk_cell BK446.out 0).trans rfl; have hcz35_1 : w33.cell? ⟨gb446, 1, none⟩ = some (.int .i64 a0_1) := (blk_cell BK446.out 1).trans rfl; have hcz35_2 : w33.cell? ⟨gb446, 2, none⟩ = some (.slice A0_2 l0_2.length c0_2) := (blk_cell BK446.out 2).trans rfl; have hcz35_3 : w33.cell? ⟨gb446, 3, none⟩ = some (.string a0_3) := (blk_cell BK446.out 3).trans rfl; have hfz35_0 := blk_frozen BK446.out 0; have hfz35_1 := blk_frozen BK446.out 1; have hfz35_2 := blk_frozen BK446.out 2; have hfz35_3 := blk_frozen BK446.out 3; have hcz36_0 : w33.cell? ⟨gb447, 0, none⟩ = some (.int .i64 a1_0) := (blk_cell BK447.out 0).trans rfl; have hcz36_1 : w33.cell? ⟨gb447, 1, none⟩ = some (.int .i64 a1_1) := (blk_cell BK447.out 1).trans rfl; have hcz36_2 : w33.cell? ⟨gb447, 2, none⟩ = some (.slice A1_2 l1_2.length c1_2) := (blk_cell BK447.out 2).trans rfl; have hcz36_3 : w33.cell? ⟨gb447, 3, none⟩ = some (.string a1_3) := (blk_cell BK447.out 3).trans rfl; have hfz36_0 := blk_frozen BK447.out 0; have hfz36_1 := blk_frozen BK447.out 1; have hfz36_2 := blk_frozen BK447.out 2; have hfz36_3 := blk_frozen BK447.out 3) | ((with_reducible refine gate_dst (N := 10) rfl ?_); (try (refine gate_guard (by rfl) ?_; dsimp only)); refine Kd.N_lit k24 _ 24 ?hg (N' := 10) ?hd (xs := ([(⟨a0_0, a0_1, l0_2, a0_3⟩ : S24), (⟨a1_0, a1_1, l1_2, a1_3⟩ : S24)] : List (S24))) (inner := [.int .i64 a0_0, .int .i64 a0_1, .slice A0_2 l0_2.length c0_2, .string a0_3, .int .i64 a1_0, .int .i64 a1_1, .slice A1_2 l1_2.length c1_2, .string a1_3]) (ok := (fun k_ => ((P0_2_ k_ ∨ P1_2_ k_) ∨ w.heap.size ≤ k_) ∧ k_ ≠ gb446 ∧ k_ ≠ gb447)) (okp := (fun k_ => ((P0_2_ k_ ∨ P1_2_ k_) ∨ w.heap.size ≤ k_) ∧ k_ ≠ gb446 ∧ k_ ≠ gb447)) ?hr ?hp (fun _ hk => hk) ((show ∀ k_, w33.heap.size ≤ k_ → (fun k_ => ((P0_2_ k_ ∨ P1_2_ k_) ∨ w.heap.size ≤ k_) ∧ k_ ≠ gb446 ∧ k_ ≠ gb447) k_ from fun k_ hk => ⟨(.inr (Nat.le_trans (below_size (by repeat (first | (with_reducible first | exact HB.out | apply below_alloc | apply pw_below_drewN | apply below_drew1 | refine below_set ?_ GE446.out | refine below_set ?_ GE447.out) | exact HB.out | exact HBo.out))) hk)), Kd.freshB (g := gb446) (o := .cells #[.int .i64 a0_0, .int .i64 a0_1, .slice A0_2 l0_2.length c0_2, .string a0_3] 24 (0, 0)) (by (with_reducible repeat (first | refine blk_drewN ?_ _ | refine blk_drew ?_ | refine blk_alloc ?_ _)); exact BK446.out) k_ hk, Kd.freshB (g := gb447) (o := .cells #[.int .i64 a1_0, .int .i64 a1_1, .slice A1_2 l1_2.length c1_2, .string a1_3] 24 (0, 0)) (by (with_reducible repeat (first | refine blk_drewN ?_ _ | refine blk_drew ?_ | refine blk_alloc ?_ _)); exact BK447.out) k_ hk⟩) _ (Nat.le_refl _)) (Below.refl _ _) (Nat.le_refl _) (by simp) ?_; (case hd => rfl); (case hg => rfl); (case hr => first | (go_simp; done) | (go_simp; rfl)); (case hp => exact (Reps.c4 (show Kd.FK k24 _ _ (⟨a0_0, a0_1, l0_2, a0_3⟩ : S24) [.int .i64 a0_0, .int .i64 a0_1, .slice A0_2 l0_2.length c0_2, .string a0_3] from (k24_mkF _ _ (⟨a0_0, a0_1, l0_2, a0_3⟩ : S24) (Kd.V_reads' (Kd.V_mono (ok' := (fun k_ => ((P0_2_ k_ ∨ P1_2_ k_) ∨ w.heap.size ≤ k_) ∧ k_ ≠ gb446 ∧ k_ ≠ gb447)) (HO0_2.out) (fun k_ hk => ⟨hk.1.1, ⟨hk.1.2, hk.2⟩⟩))).2.1 (Kd.V_F (Kd.V_mono (ok' := (fun k_ => ((P0_2_ k_ ∨ P1_2_ k_) ∨ w.heap.size ≤ k_) ∧ k_ ≠ gb446 ∧ k_ ≠ gb447)) (HO0_2.out) (fun k_ hk => ⟨hk.1.1, ⟨hk.1.2, hk.2⟩⟩))))) (Reps.c4 (show Kd.FK k24 _ _ (⟨a1_0, a1_1, l1_2, a1_3⟩ : S24) [.int .i64 a1_0, .int .i64 a1_1, .slice A1_2 l1_2.length c1_2, .string a1_3] from (k24_mkF _ _ (⟨a1_0, a1_1, l1_2, a1_3⟩ : S24) (Kd.V_reads' (Kd.V_mono (ok' := (fun k_ => ((P0_2_ k_ ∨ P1_2_ k_) ∨ w.heap.size ≤ k_) ∧ k_ ≠ gb446 ∧ k_ ≠ gb447)) (HO1_2.out) (fun k_ hk => ⟨hk.1.1, ⟨hk.1.2, hk.2⟩⟩))).2.1 (Kd.V_F (Kd.V_mono (ok' := (fun k_ => ((P0_2_ k_ ∨ P1_2_ k_) ∨ w.heap.size ≤ k_) ∧ k_ ≠ gb446 ∧ k_ ≠ gb447)) (HO1_2.out) (fun k_ hk => ⟨hk.1.1, ⟨hk.1.2, hk.2⟩⟩))))) (Reps.none _ _)))); intro v450 w37 ho38 hb hg_ hnew_; clear hg_ hnew_; (first | rw [← Ny449.out] at ho38 | (simp only [Int.reduceToNat] at ho38; rw [← Ny449.out] at ho38)); have n0_ := Aside0.mk (Kd.V_elder' (by (with_reducible repeat (first | apply Kd.V_alloc | apply Kd.V_drewN | apply Kd.V_drew)); exact HO0_2.out) (Kd.N_base ho38) hb); have n1_ := Aside0.mk (Kd.V_elder' (by (with_reducible repeat (first | apply Kd.V_alloc | apply Kd.V_drewN | apply Kd.V_drew)); exact HO1_2.out) (Kd.N_base ho38) hb); have n2_ := Aside0.mk (Kd.N_lower ho38 (below_size (by repeat (first | (with_reducible first | exact HB.out | apply below_alloc | apply pw_below_drewN | apply below_drew1 | refine below_set ?_ GE446.out | refine below_set ?_ GE447.out) | exact HB.out | exact HBo.out)))); have n3_ := Aside0.mk (blk_below (g := gb446) (o := .cells #[.int .i64 a0_0, .int .i64 a0_1, .slice A0_2 l0_2.length c0_2, .string a0_3] 24 (0, 0)) (by (with_reducible repeat (first | refine blk_drewN ?_ _ | refine blk_drew ?_ | refine blk_alloc ?_ _)); exact BK446.out) hb); have n4_ := Aside0.mk (blk_below (g := gb447) (o := .cells #[.int .i64 a1_0, .int .i64 a1_1, .slice A1_2 l1_2.length c1_2, .string a1_3] 24 (0, 0)) (by (with_reducible repeat (first | refine blk_drewN ?_ _ | refine blk_drew ?_ | refine blk_alloc ?_ _)); exact BK447.out) hb); have n5_ := Aside0.mk (below_step (by repeat (first | (with_reducible first | exact HB.out | apply below_alloc | apply pw_below_drewN | apply below_drew1 | refine below_set ?_ GE446.out | refine below_set ?_ GE447.out) | exact HB.out | exact HBo.out)) hb); clear HO0_2; clear HO1_2; clear BK446; clear BK447; clear HB; have HO0_2 := n0_; have HO1_2 := n1_; have HO451 := n2_; have BK446 := n3_; have BK447 := n4_; have HB := n5_; clear n0_ n1_ n2_ n3_ n4_ n5_; clear hb ho38; obtain ⟨Ao39, co39, eo39⟩ := Kd.N_slice HO451.out; subst eo39) | (go_at_call 8; (with_reducible refine (shuttlecockref04_Short.calls k _ _ y449 false _ ?side1 ?side2 A8.out).mono ?_); (case side1 => repeat (first | exact (Kd.N_reads' HO451.out).2.2 | (with_reducible refine Kd.C_alloc ?_ _) | (with_reducible refine Kd.C_drewN ?_ _) | (with_reducible refine Kd.C_drew ?_))); (case side2 => exact (Kd.N_reads' HO451.out).2.1); rintro e w' ⟨rfl, ⟨nd, rfl⟩⟩))
        go_meet
        case rel => exact ⟨_, (true), (by first | rfl | (simp; done) | (simp [*]; done)), H', ⟨by first | omega | exact Nat.le_refl _⟩, ⟨by (with_reducible repeat (first | apply Kd.V_alloc | apply Kd.V_drewN | apply Kd.V_drew)); exact Kd.V_mono HO0_2.out (fun _ hk => ⟨hk.1.1.1, ⟨hk.1.1.2, hk.1.2⟩⟩)⟩, ⟨by (with_reducible repeat (first | apply Kd.V_alloc | apply Kd.V_drewN | apply Kd.V_drew)); exact Kd.V_mono HO1_2.out (fun _ hk => ⟨hk.1.1.1, ⟨hk.1.1.2, hk.1.2⟩⟩)⟩, ⟨by (with_reducible repeat (first | refine blk_drewN ?_ _ | refine blk_drew ?_ | refine blk_alloc ?_ _)); exact BK446.out⟩, ⟨by (with_reducible repeat (first | refine blk_drewN ?_ _ | refine blk_drew ?_ | refine blk_alloc ?_ _)); exact BK447.out⟩, ⟨by repeat (first | (with_reducible first | exact HB.out | apply below_alloc | apply pw_below_drewN | apply below_drew1 | refine below_set ?_ GE446.out | refine below_set ?_ GE447.out) | exact HB.out | exact HBo.out)⟩⟩
    · replace c7 := Bool.eq_false_iff.mpr c7
      subst c7
      have H1 : (shuttlecocklaw04_EventApart.j0 k true a0_0 a0_1 l0_2 a0_3 a1_0 a1_1 l1_2 a1_3) = some r := by rw [if_neg (show ¬ (false = true) by decide)] at H; exact H
      clear H
      have H := H1
      clear H1
      have H' := Aside0.mk H
      clear H
      go_wp2_with (first | ((with_reducible refine gate_callee (f := 9) rfl ?_); refine goesL_ (some 5) rfl rfl Try.func9 (by kernel_rfl) rfl #[] rfl (by (try simp only [List.map_toArray, List.map_cons, List.map_nil]); first | done | rfl | (simp only [List.length_drop, List.length_take]; rfl)) ?_; (with_reducible refine (shuttlecocklaw04_fixed.calls k  false _ A6.out).mono ?_); rintro e w40 ⟨rfl, hb⟩; refine ⟨_, rfl, ?_⟩; have n0_ := Aside0.mk (Kd.V_below (by (with_reducible repeat (first | apply Kd.V_alloc | apply Kd.V_drewN | apply Kd.V_drew)); exact HO0_2.out) hb); have n1_ := Aside0.mk (Kd.V_below (by (with_reducible repeat (first | apply Kd.V_alloc | apply Kd.V_drewN | apply Kd.V_drew)); exact HO1_2.out) hb); have n2_ := Aside0.mk (blk_below (g := gb446) (o := .cells #[.int .i64 a0_0, .int .i64 a0_1, .slice A0_2 l0_2.length c0_2, .string a0_3] 24 (0, 0)) (by (with_reducible repeat (first | refine blk_drewN ?_ _ | refine blk_drew ?_ | refine blk_alloc ?_ _)); exact BK446.out) hb); have n3_ := Aside0.mk (blk_below (g := gb447) (o := .cells #[.int .i64 a1_0, .int .i64 a1_1, .slice A1_2 l1_2.length c1_2, .string a1_3] 24 (0, 0)) (by (with_reducible repeat (first | refine blk_drewN ?_ _ | refine blk_drew ?_ | refine blk_alloc ?_ _)); exact BK447.out) hb); have n4_ := Aside0.mk (below_step (by repeat (first | (with_reducible first | exact HB.out | apply below_alloc | apply pw_below_drewN | apply below_drew1 | refine below_set ?_ GE446.out | refine below_set ?_ GE447.out) | exact HB.out | exact HBo.out)) hb); clear HO0_2; clear HO1_2; clear BK446; clear BK447; clear HB; have HO0_2 := n0_; have HO1_2 := n1_; have BK446 := n2_; have BK447 := n3_; have HB := n4_; clear n0_ n1_ n2_ n3_ n4_; (try clear hb); (try clear hb2); (try clear hk); (try clear hi)))
      go_meet
      case rel => exact ⟨_, (true), (by first | rfl | (simp; done) | (simp [*]; done)), H', ⟨by first | omega | exact Nat.le_refl _⟩, ⟨by (with_reducible repeat (first | apply Kd.V_alloc | apply Kd.V_drewN | apply Kd.V_drew)); exact Kd.V_mono HO0_2.out (fun _ hk => ⟨hk.1.1, ⟨hk.1.2, hk.2⟩⟩)⟩, ⟨by (with_reducible repeat (first | apply Kd.V_alloc | apply Kd.V_drewN | apply Kd.V_drew)); exact Kd.V_mono HO1_2.out (fun _ hk => ⟨hk.1.1, ⟨hk.1.2, hk.2⟩⟩)⟩, ⟨by (with_reducible repeat (first | refine blk_drewN ?_ _ | refine blk_drew ?_ | refine blk_alloc ?_ _)); exact BK446.out⟩, ⟨by (with_reducible repeat (first | refine blk_drewN ?_ _ | refine blk_drew ?_ | refine blk_alloc ?_ _)); exact BK447.out⟩, ⟨by repeat (first | (with_reducible first | exact HB.out | apply below_alloc | apply pw_below_drewN | apply below_drew1 | refine below_set ?_ GE446.out | refine below_set ?_ GE447.out) | exact HB.out | exact HBo.out)⟩⟩
  case rest =>
    clear HC3
    try clear c1
    try clear c2
    try clear p2
    try clear c3
    try clear c4
    try clear c6
    try clear c7
    try clear c9
    try clear c11
    try clear c14
    try clear c25
    try clear c34
    try clear hcz15_0
    try clear hcz15_1
    try clear hcz15_2
    try clear hcz15_3
    try clear hcz16_0
    try clear hcz16_1
    try clear hcz16_2
    try clear hcz16_3
    try clear hcz20_0
    try clear hcz20_1
    try clear hcz20_2
    try clear hcz20_3
    try clear hcz22_0
    try clear hcz22_1
    try clear hcz22_2
    try clear hcz22_3
    try clear hcz26_0
    try clear hcz26_1
    try clear hcz26_2
    try clear hcz26_3
    try clear hcz27_0
    try clear hcz27_1
    try clear hcz27_2
    try clear hcz27_3
    try clear hcz31_0
    try clear hcz31_1
    try clear hcz31_2
    try clear hcz31_3
    try clear hcz35_0
    try clear hcz35_1
    try clear hcz35_2
    try clear hcz35_3
    try clear hcz36_0
    try clear hcz36_1
    try clear hcz36_2
    try clear hcz36_3
    try clear hfz15_0
    try clear hfz15_1
    try clear hfz15_2
    try clear hfz15_3
    try clear hfz16_0
    try clear hfz16_1
    try clear hfz16_2
    try clear hfz16_3
    try clear hfz20_0
    try clear hfz20_1
    try clear hfz20_2
    try clear hfz20_3
    try clear hfz22_0
    try clear hfz22_1
    try clear hfz22_2
    try clear hfz22_3
    try clear hfz26_0
    try clear hfz26_1
    try clear hfz26_2
    try clear hfz26_3
    try clear hfz27_0
    try clear hfz27_1
    try clear hfz27_2
    try clear hfz27_3
    try clear hfz31_0
    try clear hfz31_1
    try clear hfz31_2
    try clear hfz31_3
    try clear hfz35_0
    try clear hfz35_1
    try clear hfz35_2
    try clear hfz35_3
    try clear hfz36_0
    try clear hfz36_1
    try clear hfz36_2
    try clear hfz36_3
    obtain ⟨kq, x23_2, rfl, HA, HJ2, HO_447002, HO_448002, BK446, BK447, HB⟩ := hcut
    cases kq with
    | zero => exact absurd HA.out (by simp [shuttlecocklaw04_EventApart.j0])
    | succ kj2 =>
      have H := HA.out
      clear HA
      simp only [shuttlecocklaw04_EventApart.j0] at H
      by_cases c41 : x23_2 = true
      · subst c41
        have H1 : ((shuttlecocklaw04_fixed.f kj2).bind fun t455 => (some t455)) = some r := by rw [if_pos rfl] at H; exact H
        clear H
        have H := H1
        clear H1
        replace H := Option.bind_eq_some_iff.mp H
        obtain ⟨t455, A420, H⟩ := H
        replace H : (some t455) = some r := H
        have A42 := Aside0.mk A420
        clear A420
        obtain rfl := Option.some.inj H
        go_wp2_with (first | ((with_reducible refine gate_callee (f := 9) rfl ?_); refine goesL_ (some 24) rfl rfl Try.func9 (by kernel_rfl) rfl #[] rfl (by (try simp only [List.map_toArray, List.map_cons, List.map_nil]); first | done | rfl | (simp only [List.length_drop, List.length_take]; rfl)) ?_; (with_reducible refine (shuttlecocklaw04_fixed.calls kj2  t455 _ A42.out).mono ?_); rintro e w43 ⟨rfl, hb⟩; refine ⟨_, rfl, ?_⟩; have n0_ := Aside0.mk (Kd.V_below (by (with_reducible repeat (first | apply Kd.V_alloc | apply Kd.V_drewN | apply Kd.V_drew)); exact HO_447002.out) hb); have n1_ := Aside0.mk (Kd.V_below (by (with_reducible repeat (first | apply Kd.V_alloc | apply Kd.V_drewN | apply Kd.V_drew)); exact HO_448002.out) hb); have n2_ := Aside0.mk (blk_below (g := gb446) (o := .cells #[.int .i64 a0_0, .int .i64 a0_1, .slice A0_2 l0_2.length c0_2, .string a0_3] 24 (0, 0)) (by (with_reducible repeat (first | refine blk_drewN ?_ _ | refine blk_drew ?_ | refine blk_alloc ?_ _)); exact BK446.out) hb); have n3_ := Aside0.mk (blk_below (g := gb447) (o := .cells #[.int .i64 a1_0, .int .i64 a1_1, .slice A1_2 l1_2.length c1_2, .string a1_3] 24 (0, 0)) (by (with_reducible repeat (first | refine blk_drewN ?_ _ | refine blk_drew ?_ | refine blk_alloc ?_ _)); exact BK447.out) hb); have n4_ := Aside0.mk (below_step (by repeat (first | (with_reducible first | exact HB.out | apply below_alloc | apply pw_below_drewN | apply below_drew1 | refine below_set ?_ GE446.out | refine below_set ?_ GE447.out) | exact HB.out | exact HBo.out)) hb); clear HO_447002; clear HO_448002; clear BK446; clear BK447; clear HB; have HO_447002 := n0_; have HO_448002 := n1_; have BK446 := n2_; have BK447 := n3_; have HB := n4_; clear n0_ n1_ n2_ n3_ n4_; (try clear hb); (try clear hb2); (try clear hk); (try clear hi)))
        go_ret
        exact ⟨by first | rfl | (simp [errW_none, errW_some] <;> rfl) | (simp [*, errW_none, errW_some] <;> rfl) | (simp [Aid.ne_nil, Aid.eq_nil, errW_none, errW_some]; done), by repeat (first | (with_reducible first | exact HB.out | apply below_alloc | apply pw_below_drewN | apply below_drew1 | refine below_set ?_ GE446.out | refine below_set ?_ GE447.out) | exact HB.out | exact HBo.out)⟩
      · replace c41 := Bool.eq_false_iff.mpr c41
        subst c41
        have H1 : ((event_Encode.f kj2 a0_0 a0_1 l0_2 a0_3).bind fun t456 => ((event_Encode.f kj2 a1_0 a1_1 l1_2 a1_3).bind fun t457 => ((shuttlecockref04_Same.f kj2 a0_0 a0_1 l0_2 a0_3 a1_0 a1_1 l1_2 a1_3).bind fun t458 => (some ((t456.toList == t457.toList) == t458))))) = some r := by rw [if_neg (show ¬ (false = true) by decide)] at H; exact H
        clear H
        have H := H1
        clear H1
        replace H := Option.bind_eq_some_iff.mp H
        obtain ⟨t456, A440, H⟩ := H
        replace H : ((event_Encode.f kj2 a1_0 a1_1 l1_2 a1_3).bind fun t457 => ((shuttlecockref04_Same.f kj2 a0_0 a0_1 l0_2 a0_3 a1_0 a1_1 l1_2 a1_3).bind fun t458 => (some ((t456.toList == t457.toList) == t458)))) = some r := H
        have A44 := Aside0.mk A440
        clear A440
        replace H := Option.bind_eq_some_iff.mp H
        obtain ⟨t457, A450, H⟩ := H
        replace H : ((shuttlecockref04_Same.f kj2 a0_0 a0_1 l0_2 a0_3 a1_0 a1_1 l1_2 a1_3).bind fun t458 => (some ((t456.toList == t457.toList) == t458))) = some r := H
        have A45 := Aside0.mk A450
        clear A450
        replace H := Option.bind_eq_some_iff.mp H
        obtain ⟨t458, A460, H⟩ := H
        replace H : (some ((t456.toList == t457.toList) == t458)) = some r := H
        have A46 := Aside0.mk A460
        clear A460
        obtain rfl := Option.some.inj H
        try go_wp2
        have n0_ := Aside0.mk (Kd.V_drew HO_447002.out)
        have n1_ := Aside0.mk (Kd.V_drew HO_448002.out)
        have n2_ := Aside0.mk (blk_drew BK446.out)
        have n3_ := Aside0.mk (blk_drew BK447.out)
        have n4_ := Aside0.mk (below_drew1 HB.out)
        clear HO_447002
        clear HO_448002
        clear BK446
        clear BK447
        clear HB
        have HO_447002 := n0_
        have HO_448002 := n1_
        have BK446 := n2_
        have BK447 := n3_
        have HB := n4_
        clear n0_ n1_ n2_ n3_ n4_
        refine start_ (n := 10) (S := fun w' => w'.cell? ⟨gb446, 0, none⟩ = some (.int .i64 a0_0) ∧ w'.cell? ⟨gb446, 1, none⟩ = some (.int .i64 a0_1) ∧ w'.cell? ⟨gb446, 2, none⟩ = some (.slice A0_2 l0_2.length c0_2) ∧ w'.cell? ⟨gb446, 3, none⟩ = some (.string a0_3) ∧ w'.cell? ⟨gb447, 0, none⟩ = some (.int .i64 a1_0) ∧ w'.cell? ⟨gb447, 1, none⟩ = some (.int .i64 a1_1) ∧ w'.cell? ⟨gb447, 2, none⟩ = some (.slice A1_2 l1_2.length c1_2) ∧ w'.cell? ⟨gb447, 3, none⟩ = some (.string a1_3)) (ds := []) q18_0 (by kernel_rfl) rfl rfl ⟨(blk_cell BK446.out 0).trans rfl, (blk_cell BK446.out 1).trans rfl, (blk_cell BK446.out 2).trans rfl, (blk_cell BK446.out 3).trans rfl, (blk_cell BK447.out 0).trans rfl, (blk_cell BK447.out 1).trans rfl, (blk_cell BK447.out 2).trans rfl, (blk_cell BK447.out 3).trans rfl⟩ (fun hHeld => ?_); refine with_tabW shuttlecocklaw04_EventApart.tab3 shuttlecocklaw04_EventApart.bits3 (fun HT_ HW_ => ?_)
        generalize wc.drew = w47 at HO_447002 HO_448002 BK446 BK447 HB hHeld ⊢
        refine take_ (i := 0) (N := some 25) (v := ?_) (a' := ?_) q18_1 rfl rfl (take_ofW HT_.out HW_.out (by kernel_rfl)) (fun _ _ _ h => h) (Or.inl ⟨by rfl, ?_⟩) hHeld ?_ ?_
        rotate_left
        · rintro w' ⟨s0, s1, s2, s3, s4, s5, s6, s7⟩
          go_simp
          with_reducible rfl
        rotate_left
        · simp only [Act.put, List.setIfInBounds_toArray, List.set_cons_zero, List.set_cons_succ, i64_w, i32_w]
          rfl
        refine take_ (i := 2) (N := some 27) (v := ?_) (a' := ?_) q18_2 rfl rfl (take_ofW HT_.out HW_.out (by kernel_rfl)) (fun _ _ _ h => h) (Or.inl ⟨by rfl, ?_⟩) hHeld ?_ ?_
        rotate_left
        · rintro w' ⟨s0, s1, s2, s3, s4, s5, s6, s7⟩
          go_simp
          with_reducible rfl
        rotate_left
        · simp only [Act.put, List.setIfInBounds_toArray, List.set_cons_zero, List.set_cons_succ, i64_w, i32_w]
          rfl
        refine take_ (i := 5) (N := some 30) (v := ?_) (a' := ?_) q18_3 rfl rfl (take_ofW HT_.out HW_.out (by kernel_rfl)) (fun _ _ _ h => h) (Or.inl ⟨by rfl, ?_⟩) hHeld ?_ ?_
        rotate_left
        · rintro w' ⟨s0, s1, s2, s3, s4, s5, s6, s7⟩
          go_simp
          with_reducible rfl
        rotate_left
        · simp only [Act.put, List.setIfInBounds_toArray, List.set_cons_zero, List.set_cons_succ, i64_w, i32_w]
          rfl
        refine take_ (i := 6) (N := some 31) (v := ?_) (a' := ?_) q18_4 rfl rfl (take_ofW HT_.out HW_.out (by kernel_rfl)) (fun _ _ _ h => h) (Or.inl ⟨by rfl, ?_⟩) hHeld ?_ ?_
        rotate_left
        · rintro w' ⟨s0, s1, s2, s3, s4, s5, s6, s7⟩
          go_simp
          with_reducible rfl
        rotate_left
        · simp only [Act.put, List.setIfInBounds_toArray, List.set_cons_zero, List.set_cons_succ, i64_w, i32_w]
          rfl
        refine one_ (i := 1) (N := some 26) q18_5 rfl rfl (one_of HT_.out (by kernel_rfl)) (by decide) (fun K hK => ?_)
        refine goes_ Try.func14 (by kernel_rfl) rfl #[.agg #[.int .i64 a0_0, .int .i64 a0_1, .slice A0_2 l0_2.length c0_2, .string a0_3]] (by rfl) rfl rfl (by (try simp only [List.map_toArray, List.map_cons, List.map_nil]); first | done | rfl | (simp only [List.length_drop, List.length_take]; rfl)) ?_
        with_reducible refine (event_Encode.calls kj2 a0_0 a0_1 _ _ l0_2 a0_3 t456 _ ?side1 ?side2 A44.out).mono ?_
        (case side1 => repeat (first | exact (Kd.V_reads' HO_447002.out).2.2 | (with_reducible refine Kd.C_alloc ?_ _) | (with_reducible refine Kd.C_drewN ?_ _) | (with_reducible refine Kd.C_drew ?_)))
        (case side2 => exact (Kd.V_reads' HO_447002.out).2.1)
        rintro e w48 ⟨rfl, hb⟩
        refine ⟨_, rfl, ?_⟩
        have n0_ := Aside0.mk (Kd.V_below (by (with_reducible repeat (first | apply Kd.V_alloc | apply Kd.V_drewN | apply Kd.V_drew)); exact HO_447002.out) hb)
        have n1_ := Aside0.mk (Kd.V_below (by (with_reducible repeat (first | apply Kd.V_alloc | apply Kd.V_drewN | apply Kd.V_drew)); exact HO_448002.out) hb)
        have n2_ := Aside0.mk (blk_below (g := gb446) (o := .cells #[.int .i64 a0_0, .int .i64 a0_1, .slice A0_2 l0_2.length c0_2, .string a0_3] 24 (0, 0)) (by (with_reducible repeat (first | refine blk_drewN ?_ _ | refine blk_drew ?_ | refine blk_alloc ?_ _)); exact BK446.out) hb)
        have n3_ := Aside0.mk (blk_below (g := gb447) (o := .cells #[.int .i64 a1_0, .int .i64 a1_1, .slice A1_2 l1_2.length c1_2, .string a1_3] 24 (0, 0)) (by (with_reducible repeat (first | refine blk_drewN ?_ _ | refine blk_drew ?_ | refine blk_alloc ?_ _)); exact BK447.out) hb)
        have n4_ := Aside0.mk (below_step (by repeat (first | (with_reducible first | exact HB.out | apply below_alloc | apply pw_below_drewN | apply below_drew1 | refine below_set ?_ GE446.out | refine below_set ?_ GE447.out) | exact HB.out | exact HBo.out)) hb)
        clear HO_447002
        clear HO_448002
        clear BK446
        clear BK447
        clear HB
        have HO_447002 := n0_
        have HO_448002 := n1_
        have BK446 := n2_
        have BK447 := n3_
        have HB := n4_
        clear n0_ n1_ n2_ n3_ n4_
        (try clear hb)
        (try clear hb2)
        (try clear hk)
        (try clear hi)
        refine hK.out _ _ ⟨(blk_cell BK446.out 0).trans rfl, (blk_cell BK446.out 1).trans rfl, (blk_cell BK446.out 2).trans rfl, (blk_cell BK446.out 3).trans rfl, (blk_cell BK447.out 0).trans rfl, (blk_cell BK447.out 1).trans rfl, (blk_cell BK447.out 2).trans rfl, (blk_cell BK447.out 3).trans rfl⟩ (fun hHeld => ?_)
        clear hK K
        refine norm_ (a' := ?_) ?_ ?_
        rotate_left
        · show Act.put _ (some 26) _ = _
          simp only [Act.put, List.setIfInBounds_toArray, List.set_cons_zero, List.set_cons_succ, i64_w, i32_w]
          rfl
        refine one_ (i := 3) (N := some 28) q18_6 rfl rfl (one_of HT_.out (by kernel_rfl)) (by decide) (fun K hK => ?_)
        refine goes_ Try.func14 (by kernel_rfl) rfl #[.agg #[.int .i64 a1_0, .int .i64 a1_1, .slice A1_2 l1_2.length c1_2, .string a1_3]] (by rfl) rfl rfl (by (try simp only [List.map_toArray, List.map_cons, List.map_nil]); first | done | rfl | (simp only [List.length_drop, List.length_take]; rfl)) ?_
        with_reducible refine (event_Encode.calls kj2 a1_0 a1_1 _ _ l1_2 a1_3 t457 _ ?side1 ?side2 A45.out).mono ?_
        (case side1 => repeat (first | exact (Kd.V_reads' HO_448002.out).2.2 | (with_reducible refine Kd.C_alloc ?_ _) | (with_reducible refine Kd.C_drewN ?_ _) | (with_reducible refine Kd.C_drew ?_)))
        (case side2 => exact (Kd.V_reads' HO_448002.out).2.1)
        rintro e w49 ⟨rfl, hb⟩
        refine ⟨_, rfl, ?_⟩
        have n0_ := Aside0.mk (Kd.V_below (by (with_reducible repeat (first | apply Kd.V_alloc | apply Kd.V_drewN | apply Kd.V_drew)); exact HO_447002.out) hb)
        have n1_ := Aside0.mk (Kd.V_below (by (with_reducible repeat (first | apply Kd.V_alloc | apply Kd.V_drewN | apply Kd.V_drew)); exact HO_448002.out) hb)
        have n2_ := Aside0.mk (blk_below (g := gb446) (o := .cells #[.int .i64 a0_0, .int .i64 a0_1, .slice A0_2 l0_2.length c0_2, .string a0_3] 24 (0, 0)) (by (with_reducible repeat (first | refine blk_drewN ?_ _ | refine blk_drew ?_ | refine blk_alloc ?_ _)); exact BK446.out) hb)
        have n3_ := Aside0.mk (blk_below (g := gb447) (o := .cells #[.int .i64 a1_0, .int .i64 a1_1, .slice A1_2 l1_2.length c1_2, .string a1_3] 24 (0, 0)) (by (with_reducible repeat (first | refine blk_drewN ?_ _ | refine blk_drew ?_ | refine blk_alloc ?_ _)); exact BK447.out) hb)
        have n4_ := Aside0.mk (below_step (by repeat (first | (with_reducible first | exact HB.out | apply below_alloc | apply pw_below_drewN | apply below_drew1 | refine below_set ?_ GE446.out | refine below_set ?_ GE447.out) | exact HB.out | exact HBo.out)) hb)
        clear HO_447002
        clear HO_448002
        clear BK446
        clear BK447
        clear HB
        have HO_447002 := n0_
        have HO_448002 := n1_
        have BK446 := n2_
        have BK447 := n3_
        have HB := n4_
        clear n0_ n1_ n2_ n3_ n4_
        (try clear hb)
        (try clear hb2)
        (try clear hk)
        (try clear hi)
        refine hK.out _ _ ⟨(blk_cell BK446.out 0).trans rfl, (blk_cell BK446.out 1).trans rfl, (blk_cell BK446.out 2).trans rfl, (blk_cell BK446.out 3).trans rfl, (blk_cell BK447.out 0).trans rfl, (blk_cell BK447.out 1).trans rfl, (blk_cell BK447.out 2).trans rfl, (blk_cell BK447.out 3).trans rfl⟩ (fun hHeld => ?_)
        clear hK K
        refine norm_ (a' := ?_) ?_ ?_
        rotate_left
        · show Act.put _ (some 28) _ = _
          simp only [Act.put, List.setIfInBounds_toArray, List.set_cons_zero, List.set_cons_succ, i64_w, i32_w]
          rfl
        refine pure_ (i := 4) (N := some 29) (v := ?_) (a' := ?_) q18_7 rfl rfl (any_of HT_.out (by kernel_rfl)) (fun _ _ _ h => h) (Or.inl ⟨by rfl, ?_⟩) ?_ ?_
        rotate_left
        · intro w'
          go_simp
          with_reducible rfl
        rotate_left
        · simp only [Act.put, List.setIfInBounds_toArray, List.set_cons_zero, List.set_cons_succ, i64_w, i32_w]
          rfl
        refine one_ (i := 7) (N := some 32) q18_8 rfl rfl (one_of HT_.out (by kernel_rfl)) (by decide) (fun K hK => ?_)
        refine goes_ Try.func16 (by kernel_rfl) rfl #[.agg #[.int .i64 a0_0, .int .i64 a0_1, .slice A0_2 l0_2.length c0_2, .string a0_3], .agg #[.int .i64 a1_0, .int .i64 a1_1, .slice A1_2 l1_2.length c1_2, .string a1_3]] (by rfl) rfl rfl (by (try simp only [List.map_toArray, List.map_cons, List.map_nil]); first | done | rfl | (simp only [List.length_drop, List.length_take]; rfl)) ?_
        with_reducible refine (shuttlecockref04_Same.calls kj2 a0_0 a0_1 _ _ l0_2 a0_3 a1_0 a1_1 _ _ l1_2 a1_3 t458 _ ?side1 ?side2 ?side3 ?side4 A46.out).mono ?_
        (case side1 => repeat (first | exact (Kd.V_reads' HO_447002.out).2.2 | (with_reducible refine Kd.C_alloc ?_ _) | (with_reducible refine Kd.C_drewN ?_ _) | (with_reducible refine Kd.C_drew ?_)))
        (case side2 => exact (Kd.V_reads' HO_447002.out).2.1)
        (case side3 => repeat (first | exact (Kd.V_reads' HO_448002.out).2.2 | (with_reducible refine Kd.C_alloc ?_ _) | (with_reducible refine Kd.C_drewN ?_ _) | (with_reducible refine Kd.C_drew ?_)))
        (case side4 => exact (Kd.V_reads' HO_448002.out).2.1)
        rintro e w50 ⟨rfl, hb⟩
        refine ⟨_, rfl, ?_⟩
        have n0_ := Aside0.mk (Kd.V_below (by (with_reducible repeat (first | apply Kd.V_alloc | apply Kd.V_drewN | apply Kd.V_drew)); exact HO_447002.out) hb)
        have n1_ := Aside0.mk (Kd.V_below (by (with_reducible repeat (first | apply Kd.V_alloc | apply Kd.V_drewN | apply Kd.V_drew)); exact HO_448002.out) hb)
        have n2_ := Aside0.mk (blk_below (g := gb446) (o := .cells #[.int .i64 a0_0, .int .i64 a0_1, .slice A0_2 l0_2.length c0_2, .string a0_3] 24 (0, 0)) (by (with_reducible repeat (first | refine blk_drewN ?_ _ | refine blk_drew ?_ | refine blk_alloc ?_ _)); exact BK446.out) hb)
        have n3_ := Aside0.mk (blk_below (g := gb447) (o := .cells #[.int .i64 a1_0, .int .i64 a1_1, .slice A1_2 l1_2.length c1_2, .string a1_3] 24 (0, 0)) (by (with_reducible repeat (first | refine blk_drewN ?_ _ | refine blk_drew ?_ | refine blk_alloc ?_ _)); exact BK447.out) hb)
        have n4_ := Aside0.mk (below_step (by repeat (first | (with_reducible first | exact HB.out | apply below_alloc | apply pw_below_drewN | apply below_drew1 | refine below_set ?_ GE446.out | refine below_set ?_ GE447.out) | exact HB.out | exact HBo.out)) hb)
        clear HO_447002
        clear HO_448002
        clear BK446
        clear BK447
        clear HB
        have HO_447002 := n0_
        have HO_448002 := n1_
        have BK446 := n2_
        have BK447 := n3_
        have HB := n4_
        clear n0_ n1_ n2_ n3_ n4_
        (try clear hb)
        (try clear hb2)
        (try clear hk)
        (try clear hi)
        refine hK.out _ _ ⟨(blk_cell BK446.out 0).trans rfl, (blk_cell BK446.out 1).trans rfl, (blk_cell BK446.out 2).trans rfl, (blk_cell BK446.out 3).trans rfl, (blk_cell BK447.out 0).trans rfl, (blk_cell BK447.out 1).trans rfl, (blk_cell BK447.out 2).trans rfl, (blk_cell BK447.out 3).trans rfl⟩ (fun hHeld => ?_)
        clear hK K
        refine norm_ (a' := ?_) ?_ ?_
        rotate_left
        · show Act.put _ (some 32) _ = _
          simp only [Act.put, List.setIfInBounds_toArray, List.set_cons_zero, List.set_cons_succ, i64_w, i32_w]
          rfl
        refine pure_ (i := 8) (N := some 33) (v := ?_) (a' := ?_) q18_9 rfl rfl (any_of HT_.out (by kernel_rfl)) (fun _ _ _ h => h) (Or.inl ⟨by rfl, ?_⟩) ?_ ?_
        rotate_left
        · intro w'
          go_simp
          with_reducible rfl
        rotate_left
        · simp only [Act.put, List.setIfInBounds_toArray, List.set_cons_zero, List.set_cons_succ, i64_w, i32_w]
          rfl
        refine pure_ (i := 9) (N := some 4) (v := ?_) (a' := ?_) q18_10 rfl rfl (any_of HT_.out (by kernel_rfl)) (fun _ _ _ h => h) (Or.inl ⟨by rfl, ?_⟩) ?_ ?_
        rotate_left
        · intro w'
          go_simp
          with_reducible rfl
        rotate_left
        · simp only [Act.put, List.setIfInBounds_toArray, List.set_cons_zero, List.set_cons_succ, i64_w, i32_w]
          rfl
        refine done_ (done_of HT_.out (by kernel_rfl)) ?_
        try go_wp2
        go_ret
        exact ⟨by first | rfl | (simp [errW_none, errW_some] <;> rfl) | (simp [*, errW_none, errW_some] <;> rfl) | (simp [Aid.ne_nil, Aid.eq_nil, errW_none, errW_some]; done), by repeat (first | (with_reducible first | exact HB.out | apply below_alloc | apply pw_below_drewN | apply below_drew1 | refine below_set ?_ GE446.out | refine below_set ?_ GE447.out) | exact HB.out | exact HBo.out)⟩

/-- THE ONE PURE STATEMENT of shuttlecocklaw04_EventApart (own row). -/
def shuttlecocklaw04_EventApart.Pure : Prop := ∀ (y0 : S24) (y1 : S24), ((Lit.int .i64 y0.f0).wf = true ∧ (Lit.int .i64 y0.f1).wf = true ∧ ((∀ e5 ∈ y0.f2, (Lit.int .i64 e5).wf = true) ∧ y0.f2.length ≤ maxLen) ∧ y0.f3.size ≤ maxLen) → ((Lit.int .i64 y1.f0).wf = true ∧ (Lit.int .i64 y1.f1).wf = true ∧ ((∀ e5 ∈ y1.f2, (Lit.int .i64 e5).wf = true) ∧ y1.f2.length ≤ maxLen) ∧ y1.f3.size ≤ maxLen) → ∃ k, shuttlecocklaw04_EventApart.f k y0.f0 y0.f1 y0.f2 y0.f3 y1.f0 y1.f1 y1.f2 y1.f3 = some true

/-! ### shuttlecocklaw04_EventExp: function 7 -/
def shuttlecocklaw04_EventExp.j0 : Nat → Int → Int → ByteArray → Bool → Option (Bool)
  | 0, _, _, _, _ => none
  | k + 1, x0, x1, x2, x36 => if x36 = true then ((shuttlecocklaw04_fixed.f k).bind fun t460 => (some t460)) else ((event_Encode.f k x0 x1 ([] : List Int) x2).bind fun t461 => ((event_Encode.f k 8 0 ([] : List Int) (⟨#[]⟩ : ByteArray)).bind fun t462 => (if t461.size + t462.size ≤ 9223372036854775807 then ((event_Decode.f k (t461 ++ t462) 0).bind fun bt463 => ((event_Encode.f k 8 0 ([] : List Int) (⟨#[]⟩ : ByteArray)).bind fun t472 => (if t461.size + t472.size ≤ 9223372036854775807 then ((event_Decode.f k (t461 ++ t472) bt463.2.2.2.2.1).bind fun bt473 => (if bt463.2.2.2.2.2 = 0 then (if bt463.2.2.2.1.toList = x2.toList then (if bt463.2.1 = x1 then (if bt463.1 = x0 then (if (bt463.2.2.1.length : Int) = 0 then (if bt473.2.2.2.2.2 = 0 then (some (bt473.1 == 8)) else (none)) else (none)) else (none)) else (none)) else (none)) else (none))) else (none)))) else (none))))
def shuttlecocklaw04_EventExp.f (k : Nat) (a0 : Int) (a1 : Int) (a2 : ByteArray) : Option (Bool) := (shuttlecocklaw04_fixed.f k).bind fun t459 => (if t459 = true then (if a0 < 128 then (shuttlecocklaw04_EventExp.j0 k a0 a1 a2 true) else (if a0 > 255 then (shuttlecocklaw04_EventExp.j0 k a0 a1 a2 true) else (if a1 < 0 then (shuttlecocklaw04_EventExp.j0 k a0 a1 a2 true) else (if a1 ≥ 4611686018427387904 then (shuttlecocklaw04_EventExp.j0 k a0 a1 a2 true) else (shuttlecocklaw04_EventExp.j0 k a0 a1 a2 (decide ((a2.size : Int) > 1000))))))) else (shuttlecocklaw04_EventExp.j0 k a0 a1 a2 true))
theorem shuttlecocklaw04_EventExp.mono_l : ∀ k, (∀ y0 y1 y2 y3, LeO (shuttlecocklaw04_EventExp.j0 k y0 y1 y2 y3) (shuttlecocklaw04_EventExp.j0 (k + 1) y0 y1 y2 y3))
  | 0 => fun _ _ _ _ r h => by simp [shuttlecocklaw04_EventExp.j0] at h
  | k + 1 => by
    have ih0 := shuttlecocklaw04_EventExp.mono_l k
    · intro y0 y1 y2 y3
      unfold shuttlecocklaw04_EventExp.j0
      repeat' first
      | (with_reducible exact ih0 _ _ _ _)
      | (with_reducible exact event_Decode.mono _ _ _)
      | (with_reducible exact event_Encode.mono _ _ _ _ _)
      | (with_reducible exact shuttlecocklaw04_fixed.mono _)
      | (with_reducible exact LeO.refl _)
      | (with_reducible exact LeO.none _)
      | (with_reducible refine LeO.ite ?_ ?_)
      | (with_reducible refine LeO.bind ?_ (fun _ => ?_))
      | exact ih0 _ _ _ _
      | exact event_Decode.mono _ _ _
      | exact event_Encode.mono _ _ _ _ _
      | exact shuttlecocklaw04_fixed.mono _
      | exact LeO.none _
      | refine LeO.ite ?_ ?_
      | refine LeO.bind ?_ (fun _ => ?_)
theorem shuttlecocklaw04_EventExp.mono : ∀ a0 a1 a2 k, LeO (shuttlecocklaw04_EventExp.f k a0 a1 a2) (shuttlecocklaw04_EventExp.f (k + 1) a0 a1 a2) := by
  intro a0 a1 a2 k
  have ih0 := shuttlecocklaw04_EventExp.mono_l k
  unfold shuttlecocklaw04_EventExp.f
  repeat' first
      | (with_reducible exact ih0 _ _ _ _)
      | (with_reducible exact event_Decode.mono _ _ _)
      | (with_reducible exact event_Encode.mono _ _ _ _ _)
      | (with_reducible exact shuttlecocklaw04_fixed.mono _)
      | (with_reducible exact LeO.refl _)
      | (with_reducible exact LeO.none _)
      | (with_reducible refine LeO.ite ?_ ?_)
      | (with_reducible refine LeO.bind ?_ (fun _ => ?_))
      | exact ih0 _ _ _ _
      | exact event_Decode.mono _ _ _
      | exact event_Encode.mono _ _ _ _ _
      | exact shuttlecocklaw04_fixed.mono _
      | exact LeO.none _
      | refine LeO.ite ?_ ?_
      | refine LeO.bind ?_ (fun _ => ?_)
set_option maxHeartbeats 8000000 in
set_option maxRecDepth 100000 in
theorem shuttlecocklaw04_EventExp.calls (k : Nat) (a0 : Int) (a1 : Int) (a2 : ByteArray) (r : Bool) (w : World) (h : shuttlecocklaw04_EventExp.f k a0 a1 a2 = some r) :
    Calls Try.prog 7 #[.int .i64 a0, .int .i64 a1, .string a2] w fun e w' => e = .returned (.bool r) ∧ Below w.heap.size w w' := by
  have hu24 := Try.underlying24
  have HB := Aside0.mk (Below.refl w.heap.size w)
  have H : ((shuttlecocklaw04_fixed.f k).bind fun t459 => (if t459 = true then (if a0 < 128 then (shuttlecocklaw04_EventExp.j0 k a0 a1 a2 true) else (if a0 > 255 then (shuttlecocklaw04_EventExp.j0 k a0 a1 a2 true) else (if a1 < 0 then (shuttlecocklaw04_EventExp.j0 k a0 a1 a2 true) else (if a1 ≥ 4611686018427387904 then (shuttlecocklaw04_EventExp.j0 k a0 a1 a2 true) else (shuttlecocklaw04_EventExp.j0 k a0 a1 a2 (decide ((a2.size : Int) > 1000))))))) else (shuttlecocklaw04_EventExp.j0 k a0 a1 a2 true))) = some r := h
  clear h
  have HC4 := Aside0.mk H
  clear H
  go_enter Try.func7, Try.ntmps7
  go_upto_region 1 with (fail)
  go_cut [36] (fun v36 wc => ∃ (kq : Nat) (x36_3 : Bool), v36 = .bool x36_3 ∧ Aside0 (shuttlecocklaw04_EventExp.j0 kq a0 a1 a2 x36_3 = some r) ∧ Aside0 (kq ≤ k) ∧ Aside0 (Below w.heap.size w wc))
  case first =>
    have H := HC4.out
    clear HC4
    replace H := Option.bind_eq_some_iff.mp H
    obtain ⟨t459, A50, H⟩ := H
    replace H : (if t459 = true then (if a0 < 128 then (shuttlecocklaw04_EventExp.j0 k a0 a1 a2 true) else (if a0 > 255 then (shuttlecocklaw04_EventExp.j0 k a0 a1 a2 true) else (if a1 < 0 then (shuttlecocklaw04_EventExp.j0 k a0 a1 a2 true) else (if a1 ≥ 4611686018427387904 then (shuttlecocklaw04_EventExp.j0 k a0 a1 a2 true) else (shuttlecocklaw04_EventExp.j0 k a0 a1 a2 (decide ((a2.size : Int) > 1000))))))) else (shuttlecocklaw04_EventExp.j0 k a0 a1 a2 true)) = some r := H
    have A5 := Aside0.mk A50
    clear A50
    by_cases c6 : t459 = true
    · subst c6
      have H1 : (if a0 < 128 then (shuttlecocklaw04_EventExp.j0 k a0 a1 a2 true) else (if a0 > 255 then (shuttlecocklaw04_EventExp.j0 k a0 a1 a2 true) else (if a1 < 0 then (shuttlecocklaw04_EventExp.j0 k a0 a1 a2 true) else (if a1 ≥ 4611686018427387904 then (shuttlecocklaw04_EventExp.j0 k a0 a1 a2 true) else (shuttlecocklaw04_EventExp.j0 k a0 a1 a2 (decide ((a2.size : Int) > 1000))))))) = some r := by rw [if_pos rfl] at H; exact H
      clear H
      have H := H1
      clear H1
      by_cases c7 : a0 < 128
      · rw [if_pos c7] at H
        have c7b0 : decide (a0 < 128) = true := decide_eq_true c7
        clear c7
        (first | rw [c7b0] | (simp only [i64_w, i32_w]; rw [c7b0]) | skip)
        have H' := Aside0.mk H
        clear H
        go_wp2_with (first | ((with_reducible refine gate_callee (f := 9) rfl ?_); refine goesL_ (some 14) rfl rfl Try.func9 (by kernel_rfl) rfl #[] rfl (by (try simp only [List.map_toArray, List.map_cons, List.map_nil]); first | done | rfl | (simp only [List.length_drop, List.length_take]; rfl)) ?_; (with_reducible refine (shuttlecocklaw04_fixed.calls k  true _ A5.out).mono ?_); rintro e w8 ⟨rfl, hb⟩; refine ⟨_, rfl, ?_⟩; have n0_ := Aside0.mk (below_step (by repeat (first | (with_reducible first | exact HB.out | apply below_alloc | apply pw_below_drewN | apply below_drew1) | exact HB.out | exact HBo.out)) hb); clear HB; have HB := n0_; clear n0_; (try clear hb); (try clear hb2); (try clear hk); (try clear hi)))
        go_meet
        case rel => exact ⟨_, (true), (by first | rfl | (simp; done) | (simp [*]; done)), H', ⟨by first | omega | exact Nat.le_refl _⟩, ⟨by repeat (first | (with_reducible first | exact HB.out | apply below_alloc | apply pw_below_drewN | apply below_drew1) | exact HB.out | exact HBo.out)⟩⟩
      · rw [if_neg c7] at H
        have c7b0 : decide (a0 < 128) = false := decide_eq_false c7
        clear c7
        (first | rw [c7b0] | (simp only [i64_w, i32_w]; rw [c7b0]) | skip)
        by_cases c9 : a0 > 255
        · rw [if_pos c9] at H
          have c9b0 : decide (255 < a0) = true := decide_eq_true c9
          clear c9
          have H' := Aside0.mk H
          clear H
          go_wp2_with (first | ((with_reducible refine gate_callee (f := 9) rfl ?_); refine goesL_ (some 14) rfl rfl Try.func9 (by kernel_rfl) rfl #[] rfl (by (try simp only [List.map_toArray, List.map_cons, List.map_nil]); first | done | rfl | (simp only [List.length_drop, List.length_take]; rfl)) ?_; (with_reducible refine (shuttlecocklaw04_fixed.calls k  true _ A5.out).mono ?_); rintro e w10 ⟨rfl, hb⟩; refine ⟨_, rfl, ?_⟩; have n0_ := Aside0.mk (below_step (by repeat (first | (with_reducible first | exact HB.out | apply below_alloc | apply pw_below_drewN | apply below_drew1) | exact HB.out | exact HBo.out)) hb); clear HB; have HB := n0_; clear n0_; (try clear hb); (try clear hb2); (try clear hk); (try clear hi)))
          go_meet
          case rel => exact ⟨_, (true), (by first | rfl | (simp; done) | (simp [*]; done)), H', ⟨by first | omega | exact Nat.le_refl _⟩, ⟨by repeat (first | (with_reducible first | exact HB.out | apply below_alloc | apply pw_below_drewN | apply below_drew1) | exact HB.out | exact HBo.out)⟩⟩
        · rw [if_neg c9] at H
          have c9b0 : decide (255 < a0) = false := decide_eq_false c9
          clear c9
          by_cases c11 : a1 < 0
          · rw [if_pos c11] at H
            have c11b0 : decide (a1 < 0) = true := decide_eq_true c11
            clear c11
            have H' := Aside0.mk H
            clear H
            go_wp2_with (first | ((with_reducible refine gate_callee (f := 9) rfl ?_); refine goesL_ (some 14) rfl rfl Try.func9 (by kernel_rfl) rfl #[] rfl (by (try simp only [List.map_toArray, List.map_cons, List.map_nil]); first | done | rfl | (simp only [List.length_drop, List.length_take]; rfl)) ?_; (with_reducible refine (shuttlecocklaw04_fixed.calls k  true _ A5.out).mono ?_); rintro e w12 ⟨rfl, hb⟩; refine ⟨_, rfl, ?_⟩; have n0_ := Aside0.mk (below_step (by repeat (first | (with_reducible first | exact HB.out | apply below_alloc | apply pw_below_drewN | apply below_drew1) | exact HB.out | exact HBo.out)) hb); clear HB; have HB := n0_; clear n0_; (try clear hb); (try clear hb2); (try clear hk); (try clear hi)))
            go_meet
            case rel => exact ⟨_, (true), (by first | rfl | (simp; done) | (simp [*]; done)), H', ⟨by first | omega | exact Nat.le_refl _⟩, ⟨by repeat (first | (with_reducible first | exact HB.out | apply below_alloc | apply pw_below_drewN | apply below_drew1) | exact HB.out | exact HBo.out)⟩⟩
          · rw [if_neg c11] at H
            have c11b0 : decide (a1 < 0) = false := decide_eq_false c11
            clear c11
            by_cases c13 : a1 ≥ 4611686018427387904
            · rw [if_pos c13] at H
              have c13b0 : decide (4611686018427387904 ≤ a1) = true := decide_eq_true c13
              clear c13
              have H' := Aside0.mk H
              clear H
              go_wp2_with (first | ((with_reducible refine gate_callee (f := 9) rfl ?_); refine goesL_ (some 14) rfl rfl Try.func9 (by kernel_rfl) rfl #[] rfl (by (try simp only [List.map_toArray, List.map_cons, List.map_nil]); first | done | rfl | (simp only [List.length_drop, List.length_take]; rfl)) ?_; (with_reducible refine (shuttlecocklaw04_fixed.calls k  true _ A5.out).mono ?_); rintro e w14 ⟨rfl, hb⟩; refine ⟨_, rfl, ?_⟩; have n0_ := Aside0.mk (below_step (by repeat (first | (with_reducible first | exact HB.out | apply below_alloc | apply pw_below_drewN | apply below_drew1) | exact HB.out | exact HBo.out)) hb); clear HB; have HB := n0_; clear n0_; (try clear hb); (try clear hb2); (try clear hk); (try clear hi)))
              go_meet
              case rel => exact ⟨_, (true), (by first | rfl | (simp; done) | (simp [*]; done)), H', ⟨by first | omega | exact Nat.le_refl _⟩, ⟨by repeat (first | (with_reducible first | exact HB.out | apply below_alloc | apply pw_below_drewN | apply below_drew1) | exact HB.out | exact HBo.out)⟩⟩
            · rw [if_neg c13] at H
              have c13b0 : decide (4611686018427387904 ≤ a1) = false := decide_eq_false c13
              clear c13
              have H' := Aside0.mk H
              clear H
              go_wp2_with (first | ((with_reducible refine gate_callee (f := 9) rfl ?_); refine goesL_ (some 14) rfl rfl Try.func9 (by kernel_rfl) rfl #[] rfl (by (try simp only [List.map_toArray, List.map_cons, List.map_nil]); first | done | rfl | (simp only [List.length_drop, List.length_take]; rfl)) ?_; (with_reducible refine (shuttlecocklaw04_fixed.calls k  true _ A5.out).mono ?_); rintro e w15 ⟨rfl, hb⟩; refine ⟨_, rfl, ?_⟩; have n0_ := Aside0.mk (below_step (by repeat (first | (with_reducible first | exact HB.out | apply below_alloc | apply pw_below_drewN | apply below_drew1) | exact HB.out | exact HBo.out)) hb); clear HB; have HB := n0_; clear n0_; (try clear hb); (try clear hb2); (try clear hk); (try clear hi)))
              go_meet
              case rel => exact ⟨_, (decide ((a2.size : Int) > 1000)), (by first | rfl | (simp; done) | (simp [*]; done)), H', ⟨by first | omega | exact Nat.le_refl _⟩, ⟨by repeat (first | (with_reducible first | exact HB.out | apply below_alloc | apply pw_below_drewN | apply below_drew1) | exact HB.out | exact HBo.out)⟩⟩
    · replace c6 := Bool.eq_false_iff.mpr c6
      subst c6
      have H1 : (shuttlecocklaw04_EventExp.j0 k a0 a1 a2 true) = some r := by rw [if_neg (show ¬ (false = true) by decide)] at H; exact H
      clear H
      have H := H1
      clear H1
      have H' := Aside0.mk H
      clear H
      go_wp2_with (first | ((with_reducible refine gate_callee (f := 9) rfl ?_); refine goesL_ (some 14) rfl rfl Try.func9 (by kernel_rfl) rfl #[] rfl (by (try simp only [List.map_toArray, List.map_cons, List.map_nil]); first | done | rfl | (simp only [List.length_drop, List.length_take]; rfl)) ?_; (with_reducible refine (shuttlecocklaw04_fixed.calls k  false _ A5.out).mono ?_); rintro e w16 ⟨rfl, hb⟩; refine ⟨_, rfl, ?_⟩; have n0_ := Aside0.mk (below_step (by repeat (first | (with_reducible first | exact HB.out | apply below_alloc | apply pw_below_drewN | apply below_drew1) | exact HB.out | exact HBo.out)) hb); clear HB; have HB := n0_; clear n0_; (try clear hb); (try clear hb2); (try clear hk); (try clear hi)))
      go_meet
      case rel => exact ⟨_, (true), (by first | rfl | (simp; done) | (simp [*]; done)), H', ⟨by first | omega | exact Nat.le_refl _⟩, ⟨by repeat (first | (with_reducible first | exact HB.out | apply below_alloc | apply pw_below_drewN | apply below_drew1) | exact HB.out | exact HBo.out)⟩⟩
  case rest =>
    clear HC4
    try clear c1
    try clear p2
    try clear c6
    try clear c7
    try clear c7b0
    try clear c9
    try clear c9b0
    try clear c11
    try clear c11b0
    try clear c13
    try clear c13b0
    obtain ⟨kq, x36_3, rfl, HA, HJ3, HB⟩ := hcut
    cases kq with
    | zero => exact absurd HA.out (by simp [shuttlecocklaw04_EventExp.j0])
    | succ kj3 =>
      have H := HA.out
      clear HA
      simp only [shuttlecocklaw04_EventExp.j0] at H
      by_cases c17 : x36_3 = true
      · subst c17
        have H1 : ((shuttlecocklaw04_fixed.f kj3).bind fun t460 => (some t460)) = some r := by rw [if_pos rfl] at H; exact H
        clear H
        have H := H1
        clear H1
        replace H := Option.bind_eq_some_iff.mp H
        obtain ⟨t460, A180, H⟩ := H
        replace H : (some t460) = some r := H
        have A18 := Aside0.mk A180
        clear A180
        obtain rfl := Option.some.inj H
        go_wp2_with (first | ((with_reducible refine gate_callee (f := 9) rfl ?_); refine goesL_ (some 37) rfl rfl Try.func9 (by kernel_rfl) rfl #[] rfl (by (try simp only [List.map_toArray, List.map_cons, List.map_nil]); first | done | rfl | (simp only [List.length_drop, List.length_take]; rfl)) ?_; (with_reducible refine (shuttlecocklaw04_fixed.calls kj3  t460 _ A18.out).mono ?_); rintro e w19 ⟨rfl, hb⟩; refine ⟨_, rfl, ?_⟩; have n0_ := Aside0.mk (below_step (by repeat (first | (with_reducible first | exact HB.out | apply below_alloc | apply pw_below_drewN | apply below_drew1) | exact HB.out | exact HBo.out)) hb); clear HB; have HB := n0_; clear n0_; (try clear hb); (try clear hb2); (try clear hk); (try clear hi)))
        go_ret
        exact ⟨by first | rfl | (simp [errW_none, errW_some] <;> rfl) | (simp [*, errW_none, errW_some] <;> rfl) | (simp [Aid.ne_nil, Aid.eq_nil, errW_none, errW_some]; done), by repeat (first | (with_reducible first | exact HB.out | apply below_alloc | apply pw_below_drewN | apply below_drew1) | exact HB.out | exact HBo.out)⟩
      · replace c17 := Bool.eq_false_iff.mpr c17
        subst c17
        have H1 : ((event_Encode.f kj3 a0 a1 ([] : List Int) a2).bind fun t461 => ((event_Encode.f kj3 8 0 ([] : List Int) (⟨#[]⟩ : ByteArray)).bind fun t462 => (if t461.size + t462.size ≤ 9223372036854775807 then ((event_Decode.f kj3 (t461 ++ t462) 0).bind fun bt463 => ((event_Encode.f kj3 8 0 ([] : List Int) (⟨#[]⟩ : ByteArray)).bind fun t472 => (if t461.size + t472.size ≤ 9223372036854775807 then ((event_Decode.f kj3 (t461 ++ t472) bt463.2.2.2.2.1).bind fun bt473 => (if bt463.2.2.2.2.2 = 0 then (if bt463.2.2.2.1.toList = a2.toList then (if bt463.2.1 = a1 then (if bt463.1 = a0 then (if (bt463.2.2.1.length : Int) = 0 then (if bt473.2.2.2.2.2 = 0 then (some (bt473.1 == 8)) else (none)) else (none)) else (none)) else (none)) else (none)) else (none))) else (none)))) else (none)))) = some r := by rw [if_neg (show ¬ (false = true) by decide)] at H; exact H
        clear H
        have H := H1
        clear H1
        replace H := Option.bind_eq_some_iff.mp H
        obtain ⟨t461, A200, H⟩ := H
        replace H : ((event_Encode.f kj3 8 0 ([] : List Int) (⟨#[]⟩ : ByteArray)).bind fun t462 => (if t461.size + t462.size ≤ 9223372036854775807 then ((event_Decode.f kj3 (t461 ++ t462) 0).bind fun bt463 => ((event_Encode.f kj3 8 0 ([] : List Int) (⟨#[]⟩ : ByteArray)).bind fun t472 => (if t461.size + t472.size ≤ 9223372036854775807 then ((event_Decode.f kj3 (t461 ++ t472) bt463.2.2.2.2.1).bind fun bt473 => (if bt463.2.2.2.2.2 = 0 then (if bt463.2.2.2.1.toList = a2.toList then (if bt463.2.1 = a1 then (if bt463.1 = a0 then (if (bt463.2.2.1.length : Int) = 0 then (if bt473.2.2.2.2.2 = 0 then (some (bt473.1 == 8)) else (none)) else (none)) else (none)) else (none)) else (none)) else (none))) else (none)))) else (none))) = some r := H
        have A20 := Aside0.mk A200
        clear A200
        replace H := Option.bind_eq_some_iff.mp H
        obtain ⟨t462, A210, H⟩ := H
        replace H : (if t461.size + t462.size ≤ 9223372036854775807 then ((event_Decode.f kj3 (t461 ++ t462) 0).bind fun bt463 => ((event_Encode.f kj3 8 0 ([] : List Int) (⟨#[]⟩ : ByteArray)).bind fun t472 => (if t461.size + t472.size ≤ 9223372036854775807 then ((event_Decode.f kj3 (t461 ++ t472) bt463.2.2.2.2.1).bind fun bt473 => (if bt463.2.2.2.2.2 = 0 then (if bt463.2.2.2.1.toList = a2.toList then (if bt463.2.1 = a1 then (if bt463.1 = a0 then (if (bt463.2.2.1.length : Int) = 0 then (if bt473.2.2.2.2.2 = 0 then (some (bt473.1 == 8)) else (none)) else (none)) else (none)) else (none)) else (none)) else (none))) else (none)))) else (none)) = some r := H
        have A21 := Aside0.mk A210
        clear A210
        by_cases c22 : t461.size + t462.size ≤ 9223372036854775807
        · rw [if_pos c22] at H
          have c22b0 := eq_true c22
          have c22b1 : decide (t461.size + t462.size ≤ 9223372036854775807) = true := decide_eq_true c22
          try have c22b2 : (9223372036854775807 < t461.size + t462.size) = False := eq_false (Nat.not_lt.2 c22)
          replace H := Option.bind_eq_some_iff.mp H
          obtain ⟨⟨t463, t464, t465, t468, t469, t470⟩, A230, H⟩ := H
          replace H : ((event_Encode.f kj3 8 0 ([] : List Int) (⟨#[]⟩ : ByteArray)).bind fun t472 => (if t461.size + t472.size ≤ 9223372036854775807 then ((event_Decode.f kj3 (t461 ++ t472) t469).bind fun bt473 => (if t470 = 0 then (if t468.toList = a2.toList then (if t464 = a1 then (if t463 = a0 then (if (t465.length : Int) = 0 then (if bt473.2.2.2.2.2 = 0 then (some (bt473.1 == 8)) else (none)) else (none)) else (none)) else (none)) else (none)) else (none))) else (none))) = some r := H
          have A23 := Aside0.mk A230
          clear A230
          replace H := Option.bind_eq_some_iff.mp H
          obtain ⟨t472, A240, H⟩ := H
          replace H : (if t461.size + t472.size ≤ 9223372036854775807 then ((event_Decode.f kj3 (t461 ++ t472) t469).bind fun bt473 => (if t470 = 0 then (if t468.toList = a2.toList then (if t464 = a1 then (if t463 = a0 then (if (t465.length : Int) = 0 then (if bt473.2.2.2.2.2 = 0 then (some (bt473.1 == 8)) else (none)) else (none)) else (none)) else (none)) else (none)) else (none))) else (none)) = some r := H
          have A24 := Aside0.mk A240
          clear A240
          by_cases c25 : t461.size + t472.size ≤ 9223372036854775807
          · rw [if_pos c25] at H
            have c25b0 := eq_true c25
            have c25b1 : decide (t461.size + t472.size ≤ 9223372036854775807) = true := decide_eq_true c25
            try have c25b2 : (9223372036854775807 < t461.size + t472.size) = False := eq_false (Nat.not_lt.2 c25)
            replace H := Option.bind_eq_some_iff.mp H
            obtain ⟨⟨t473, t474, t475, t478, t479, t480⟩, A260, H⟩ := H
            replace H : (if t470 = 0 then (if t468.toList = a2.toList then (if t464 = a1 then (if t463 = a0 then (if (t465.length : Int) = 0 then (if t480 = 0 then (some (t473 == 8)) else (none)) else (none)) else (none)) else (none)) else (none)) else (none)) = some r := H
            have A26 := Aside0.mk A260
            clear A260
            by_cases c27 : t470 = 0
            · rw [if_pos c27] at H
              have c27b0 : (t470 == 0) = true := beq_iff_eq.mpr c27
              have c27b1 : (t470 != 0) = false := bne_eq_false_iff_eq.mpr c27
              clear c27
              by_cases c28 : t468.toList = a2.toList
              · rw [if_pos c28] at H
                have c28b0 : (t468.toList == a2.toList) = true := beq_iff_eq.mpr c28
                have c28b1 : (t468.toList != a2.toList) = false := bne_eq_false_iff_eq.mpr c28
                clear c28
                by_cases c29 : t464 = a1
                · rw [if_pos c29] at H
                  have c29b0 : (t464 == a1) = true := beq_iff_eq.mpr c29
                  have c29b1 : (t464 != a1) = false := bne_eq_false_iff_eq.mpr c29
                  clear c29
                  by_cases c30 : t463 = a0
                  · rw [if_pos c30] at H
                    have c30b0 : (t463 == a0) = true := beq_iff_eq.mpr c30
                    have c30b1 : (t463 != a0) = false := bne_eq_false_iff_eq.mpr c30
                    clear c30
                    by_cases c31 : (t465.length : Int) = 0
                    · rw [if_pos c31] at H
                      have c31b0 : ((t465.length : Int) == 0) = true := beq_iff_eq.mpr c31
                      have c31b1 : ((t465.length : Int) != 0) = false := bne_eq_false_iff_eq.mpr c31
                      clear c31
                      by_cases c32 : t480 = 0
                      · rw [if_pos c32] at H
                        have c32b0 : (t480 == 0) = true := beq_iff_eq.mpr c32
                        have c32b1 : (t480 != 0) = false := bne_eq_false_iff_eq.mpr c32
                        clear c32
                        obtain rfl := Option.some.inj H
                        go_wp2_with (first | ((with_reducible refine gate_callee (f := 14) rfl ?_); refine goesL_ (some 42) rfl rfl Try.func14 (by kernel_rfl) rfl #[.agg #[.int .i64 a0, .int .i64 a1, .slice none 0 0, .string a2]] rfl (by (try simp only [List.map_toArray, List.map_cons, List.map_nil]); first | done | rfl | (simp only [List.length_drop, List.length_take]; rfl)) ?_; (refine (event_Encode.calls kj3 a0 a1 _ _ ([] : List Int) a2 t461 _ ?side1 ?side2 A20.out).mono ?_); (case side1 => exact Kd.C_nil _ _); (case side2 => exact Nat.le_refl _); rintro e w33 ⟨rfl, hb⟩; refine ⟨_, rfl, ?_⟩; have n0_ := Aside0.mk (below_step (by repeat (first | (with_reducible first | exact HB.out | apply below_alloc | apply pw_below_drewN | apply below_drew1) | exact HB.out | exact HBo.out)) hb); clear HB; have HB := n0_; clear n0_; (try clear hb); (try clear hb2); (try clear hk); (try clear hi)) | ((with_reducible refine gate_callee (f := 14) rfl ?_); refine goesL_ (some 46) rfl rfl Try.func14 (by kernel_rfl) rfl #[.agg #[.int .i64 8, .int .i64 0, .slice none 0 0, .string (⟨#[]⟩ : ByteArray)]] rfl (by (try simp only [List.map_toArray, List.map_cons, List.map_nil]); first | done | rfl | (simp only [List.length_drop, List.length_take]; rfl)) ?_; (refine (event_Encode.calls kj3 8 0 _ _ ([] : List Int) (⟨#[]⟩ : ByteArray) t462 _ ?side1 ?side2 A21.out).mono ?_); (case side1 => exact Kd.C_nil _ _); (case side2 => exact Nat.le_refl _); rintro e w34 ⟨rfl, hb⟩; refine ⟨_, rfl, ?_⟩; have n0_ := Aside0.mk (below_step (by repeat (first | (with_reducible first | exact HB.out | apply below_alloc | apply pw_below_drewN | apply below_drew1) | exact HB.out | exact HBo.out)) hb); clear HB; have HB := n0_; clear n0_; (try clear hb); (try clear hb2); (try clear hk); (try clear hi)) | ((with_reducible refine gate_callee (f := 10) rfl ?_); refine goesL_ (some 48) rfl rfl Try.func10 (by kernel_rfl) rfl #[.string (t461 ++ t462), .int .i64 0] rfl (by (try simp only [List.map_toArray, List.map_cons, List.map_nil]); first | done | rfl | (simp only [List.length_drop, List.length_take]; rfl)) ?_; (with_reducible refine (event_Decode.calls kj3 (t461 ++ t462) 0 t463 t464 t465 t468 t469 t470 _ A23.out).mono ?_); rintro e w35 ⟨v466, rfl, ho0, hb⟩; refine ⟨_, rfl, ?_⟩; have n0_ := Aside0.mk (Kd.R_lower ho0 (below_size (by repeat (first | (with_reducible first | exact HB.out | apply below_alloc | apply pw_below_drewN | apply below_drew1) | exact HB.out | exact HBo.out)))); have n1_ := Aside0.mk (below_step (by repeat (first | (with_reducible first | exact HB.out | apply below_alloc | apply pw_below_drewN | apply below_drew1) | exact HB.out | exact HBo.out)) hb); clear HB; have HO467 := n0_; have HB := n1_; clear n0_ n1_; (try clear hb); (try clear hb2); (try clear hk); (try clear hi); (try clear ho0)) | ((with_reducible refine gate_dst (N := 8) rfl ?_); (try (refine gate_guard (by rfl) ?_; dsimp only)); refine box_event ?hg (N := 8) ?hd (cs := #[.int .i64 0, .int .i64 0, .slice none 0 0, .string (⟨#[]⟩ : ByteArray)]) (t := 24) ?hr ?_; (case hd => rfl); (case hg => rfl); (case hr => first | (go_simp; done) | (go_simp; rfl)); intro gb471 hg w36 hbox hb; have n0_ := Aside0.mk (Kd.R_below (by (with_reducible repeat (first | apply Kd.R_alloc | apply Kd.R_drewN | apply Kd.R_drew)); exact HO467.out) hb); have n1_ := Aside0.mk (below_step (by repeat (first | (with_reducible first | exact HB.out | apply below_alloc | apply pw_below_drewN | apply below_drew1) | exact HB.out | exact HBo.out)) hb); have n2_ := Aside0.mk (hbox); have n3_ := Aside0.mk ((by rw [hg]; exact (below_size (by repeat (first | (with_reducible first | exact HB.out | apply below_alloc | apply pw_below_drewN | apply below_drew1) | exact HB.out | exact HBo.out))) : w.heap.size ≤ gb471)); have n4_ := Aside0.mk ((by rw [hg]; exact (below_size (by repeat (first | (with_reducible first | exact HB.out | apply below_alloc | apply pw_below_drewN | apply below_drew1) | exact HB.out | exact HBo.out))) : w.heap.size ≤ gb471)); clear HO467; clear HB; have HO467 := n0_; have HB := n1_; have BK471 := n2_; have GW471 := n3_; have GE471 := n4_; clear n0_ n1_ n2_ n3_ n4_; clear hb hbox hg; have hcz37_0 : w36.cell? ⟨gb471, 0, none⟩ = some (.int .i64 0) := (blk_cell BK471.out 0).trans rfl; have hcz37_1 : w36.cell? ⟨gb471, 1, none⟩ = some (.int .i64 0) := (blk_cell BK471.out 1).trans rfl; have hcz37_2 : w36.cell? ⟨gb471, 2, none⟩ = some (.slice none 0 0) := (blk_cell BK471.out 2).trans rfl; have hcz37_3 : w36.cell? ⟨gb471, 3, none⟩ = some (.string (⟨#[]⟩ : ByteArray)) := (blk_cell BK471.out 3).trans rfl; have hfz37_0 := blk_frozen BK471.out 0; have hfz37_1 := blk_frozen BK471.out 1; have hfz37_2 := blk_frozen BK471.out 2; have hfz37_3 := blk_frozen BK471.out 3; obtain ⟨Ao38, co38, eo38⟩ := Kd.R_slice HO467.out; subst eo38) | ((with_reducible refine gate_callee (f := 14) rfl ?_); refine goesL_ (some 55) rfl rfl Try.func14 (by kernel_rfl) rfl #[.agg #[.int .i64 8, .int .i64 0, .slice none 0 0, .string (⟨#[]⟩ : ByteArray)]] rfl (by (try simp only [List.map_toArray, List.map_cons, List.map_nil]); first | done | rfl | (simp only [List.length_drop, List.length_take]; rfl)) ?_; (refine (event_Encode.calls kj3 8 0 _ _ ([] : List Int) (⟨#[]⟩ : ByteArray) t472 _ ?side1 ?side2 A24.out).mono ?_); (case side1 => exact Kd.C_nil _ _); (case side2 => exact Nat.le_refl _); rintro e w39 ⟨rfl, hb⟩; refine ⟨_, rfl, ?_⟩; have n0_ := Aside0.mk (Kd.R_below (by (with_reducible repeat (first | apply Kd.R_alloc | apply Kd.R_drewN | apply Kd.R_drew)); exact (Kd.R_mono (Kd.R_far (p := ⟨gb471, 3, none⟩) (Kd.R_far (p := ⟨gb471, 2, none⟩) (Kd.R_far (p := ⟨gb471, 1, none⟩) (Kd.R_far (p := ⟨gb471, 0, none⟩) (Kd.R_types HO467.out BK471.out (by decide)) (fun _ hk => hk.2) (.int .i64 t463)) (fun _ hk => hk.2) (.int .i64 t464)) (fun _ hk => hk.2) (.slice Ao38 t465.length co38)) (fun _ hk => hk.2) (.string t468)) (fun _ h_ => h_.1))) hb); have n1_ := Aside0.mk (blk_below (g := gb471) (o := .cells #[.int .i64 t463, .int .i64 t464, .slice Ao38 t465.length co38, .string t468] 24 (0, 0)) (by (with_reducible repeat (first | refine blk_drewN ?_ _ | refine blk_drew ?_ | refine blk_alloc ?_ _)); refine blk_put (cs := #[.int .i64 t463, .int .i64 t464, .slice Ao38 t465.length co38, .string (⟨#[]⟩ : ByteArray)]) ?_ 3 _ rfl; (with_reducible repeat (first | refine blk_drewN ?_ _ | refine blk_drew ?_ | refine blk_alloc ?_ _)); refine blk_put (cs := #[.int .i64 t463, .int .i64 t464, .slice none 0 0, .string (⟨#[]⟩ : ByteArray)]) ?_ 2 _ rfl; (with_reducible repeat (first | refine blk_drewN ?_ _ | refine blk_drew ?_ | refine blk_alloc ?_ _)); refine blk_put (cs := #[.int .i64 t463, .int .i64 0, .slice none 0 0, .string (⟨#[]⟩ : ByteArray)]) ?_ 1 _ rfl; (with_reducible repeat (first | refine blk_drewN ?_ _ | refine blk_drew ?_ | refine blk_alloc ?_ _)); refine blk_put (cs := #[.int .i64 0, .int .i64 0, .slice none 0 0, .string (⟨#[]⟩ : ByteArray)]) ?_ 0 _ rfl; (with_reducible repeat (first | refine blk_drewN ?_ _ | refine blk_drew ?_ | refine blk_alloc ?_ _)); exact BK471.out) hb); have n2_ := Aside0.mk (below_step (by repeat (first | (with_reducible first | exact HB.out | apply below_alloc | apply pw_below_drewN | apply below_drew1 | refine below_set ?_ GE471.out) | exact HB.out | exact HBo.out)) hb); clear HO467; clear BK471; clear HB; have HO467 := n0_; have BK471 := n1_; have HB := n2_; clear n0_ n1_ n2_; (try clear hb); (try clear hb2); (try clear hk); (try clear hi)) | ((with_reducible refine gate_callee (f := 10) rfl ?_); refine goesL_ (some 58) rfl rfl Try.func10 (by kernel_rfl) rfl #[.string (t461 ++ t472), .int .i64 t469] rfl (by (try simp only [List.map_toArray, List.map_cons, List.map_nil]); first | done | rfl | (simp only [List.length_drop, List.length_take]; rfl)) ?_; (with_reducible refine (event_Decode.calls kj3 (t461 ++ t472) t469 t473 t474 t475 t478 t479 t480 _ A26.out).mono ?_); rintro e w40 ⟨v476, rfl, ho0, hb⟩; refine ⟨_, rfl, ?_⟩; have n0_ := Aside0.mk (Kd.R_elder' (by (with_reducible repeat (first | apply Kd.R_alloc | apply Kd.R_drewN | apply Kd.R_drew)); exact HO467.out) (Kd.R_base ho0) hb); have n1_ := Aside0.mk (Kd.R_lower (Kd.R_new' ho0 (Kd.R_lt (by (with_reducible repeat (first | apply Kd.R_alloc | apply Kd.R_drewN | apply Kd.R_drew)); exact HO467.out))) (below_size (by repeat (first | (with_reducible first | exact HB.out | apply below_alloc | apply pw_below_drewN | apply below_drew1 | refine below_set ?_ GE471.out) | exact HB.out | exact HBo.out)))); have n2_ := Aside0.mk (blk_below (g := gb471) (o := .cells #[.int .i64 t463, .int .i64 t464, .slice Ao38 t465.length co38, .string t468] 24 (0, 0)) (by (with_reducible repeat (first | refine blk_drewN ?_ _ | refine blk_drew ?_ | refine blk_alloc ?_ _)); exact BK471.out) hb); have n3_ := Aside0.mk (below_step (by repeat (first | (with_reducible first | exact HB.out | apply below_alloc | apply pw_below_drewN | apply below_drew1 | refine below_set ?_ GE471.out) | exact HB.out | exact HBo.out)) hb); clear HO467; clear BK471; clear HB; have HO467 := n0_; have HO477 := n1_; have BK471 := n2_; have HB := n3_; clear n0_ n1_ n2_ n3_; (try clear hb); (try clear hb2); (try clear hk); (try clear hi); (try clear ho0)) | ((with_reducible refine gate_dst (N := 11) rfl ?_); (try (refine gate_guard (by rfl) ?_; dsimp only)); refine box_event ?hg (N := 11) ?hd (cs := #[.int .i64 0, .int .i64 0, .slice none 0 0, .string (⟨#[]⟩ : ByteArray)]) (t := 24) ?hr ?_; (case hd => rfl); (case hg => rfl); (case hr => first | (go_simp; done) | (go_simp; rfl)); intro gb481 hg w41 hbox hb; have n0_ := Aside0.mk (Kd.R_below (by (with_reducible repeat (first | apply Kd.R_alloc | apply Kd.R_drewN | apply Kd.R_drew)); exact HO467.out) hb); have n1_ := Aside0.mk (Kd.R_below (by (with_reducible repeat (first | apply Kd.R_alloc | apply Kd.R_drewN | apply Kd.R_drew)); exact HO477.out) hb); have n2_ := Aside0.mk (blk_below (g := gb471) (o := .cells #[.int .i64 t463, .int .i64 t464, .slice Ao38 t465.length co38, .string t468] 24 (0, 0)) (by (with_reducible repeat (first | refine blk_drewN ?_ _ | refine blk_drew ?_ | refine blk_alloc ?_ _)); exact BK471.out) hb); have n3_ := Aside0.mk (below_step (by repeat (first | (with_reducible first | exact HB.out | apply below_alloc | apply pw_below_drewN | apply below_drew1 | refine below_set ?_ GE471.out) | exact HB.out | exact HBo.out)) hb); have n4_ := Aside0.mk (hbox); have n5_ := Aside0.mk ((by rw [hg]; exact (below_size (by repeat (first | (with_reducible first | exact HB.out | apply below_alloc | apply pw_below_drewN | apply below_drew1 | refine below_set ?_ GE471.out) | exact HB.out | exact HBo.out))) : w.heap.size ≤ gb481)); have n6_ := Aside0.mk ((by rw [hg]; exact (below_size (by repeat (first | (with_reducible first | exact HB.out | apply below_alloc | apply pw_below_drewN | apply below_drew1 | refine below_set ?_ GE471.out) | exact HB.out | exact HBo.out))) : w.heap.size ≤ gb481)); have n7_ := Aside0.mk ((by rw [hg]; exact Nat.ne_of_lt (blk_lt (g := gb471) (o := .cells #[.int .i64 t463, .int .i64 t464, .slice Ao38 t465.length co38, .string t468] 24 (0, 0)) (by (with_reducible repeat (first | refine blk_drewN ?_ _ | refine blk_drew ?_ | refine blk_alloc ?_ _)); exact BK471.out)) : gb471 ≠ gb481)); have n8_ := Aside0.mk ((by rw [hg]; exact Nat.ne_of_gt (blk_lt (g := gb471) (o := .cells #[.int .i64 t463, .int .i64 t464, .slice Ao38 t465.length co38, .string t468] 24 (0, 0)) (by (with_reducible repeat (first | refine blk_drewN ?_ _ | refine blk_drew ?_ | refine blk_alloc ?_ _)); exact BK471.out)) : gb481 ≠ gb471)); clear HO467; clear HO477; clear BK471; clear HB; have HO467 := n0_; have HO477 := n1_; have BK471 := n2_; have HB := n3_; have BK481 := n4_; have GW481 := n5_; have GE481 := n6_; have NB471_481 := n7_; have NB481_471 := n8_; clear n0_ n1_ n2_ n3_ n4_ n5_ n6_ n7_ n8_; clear hb hbox hg; have hnb42 := NB481_471.out; have hnc42 := NB471_481.out; have hcz43_0 : w41.cell? ⟨gb481, 0, none⟩ = some (.int .i64 0) := (blk_cell BK481.out 0).trans rfl; have hcz43_1 : w41.cell? ⟨gb481, 1, none⟩ = some (.int .i64 0) := (blk_cell BK481.out 1).trans rfl; have hcz43_2 : w41.cell? ⟨gb481, 2, none⟩ = some (.slice none 0 0) := (blk_cell BK481.out 2).trans rfl; have hcz43_3 : w41.cell? ⟨gb481, 3, none⟩ = some (.string (⟨#[]⟩ : ByteArray)) := (blk_cell BK481.out 3).trans rfl; have hfz43_0 := blk_frozen BK481.out 0; have hfz43_1 := blk_frozen BK481.out 1; have hfz43_2 := blk_frozen BK481.out 2; have hfz43_3 := blk_frozen BK481.out 3; obtain ⟨Ao44, co44, eo44⟩ := Kd.R_slice HO477.out; subst eo44; have hcz45_0 : w41.cell? ⟨gb471, 0, none⟩ = some (.int .i64 t463) := (blk_cell BK471.out 0).trans rfl; have hcz45_1 : w41.cell? ⟨gb471, 1, none⟩ = some (.int .i64 t464) := (blk_cell BK471.out 1).trans rfl; have hcz45_2 : w41.cell? ⟨gb471, 2, none⟩ = some (.slice Ao38 t465.length co38) := (blk_cell BK471.out 2).trans rfl; have hcz45_3 : w41.cell? ⟨gb471, 3, none⟩ = some (.string t468) := (blk_cell BK471.out 3).trans rfl; have hfz45_0 := blk_frozen BK471.out 0; have hfz45_1 := blk_frozen BK471.out 1; have hfz45_2 := blk_frozen BK471.out 2; have hfz45_3 := blk_frozen BK471.out 3))
                        go_ret
                        exact ⟨by first | rfl | (simp [errW_none, errW_some] <;> rfl) | (simp [*, errW_none, errW_some] <;> rfl) | (simp [Aid.ne_nil, Aid.eq_nil, errW_none, errW_some]; done), by repeat (first | (with_reducible first | exact HB.out | apply below_alloc | apply pw_below_drewN | apply below_drew1 | refine below_set ?_ GE471.out | refine below_set ?_ GE481.out) | exact HB.out | exact HBo.out)⟩
                      · rw [if_neg c32] at H
                        exact absurd H (by simp)
                    · rw [if_neg c31] at H
                      exact absurd H (by simp)
                  · rw [if_neg c30] at H
                    exact absurd H (by simp)
                · rw [if_neg c29] at H
                  exact absurd H (by simp)
              · rw [if_neg c28] at H
                exact absurd H (by simp)
            · rw [if_neg c27] at H
              exact absurd H (by simp)
          · rw [if_neg c25] at H
            exact absurd H (by simp)
        · rw [if_neg c22] at H
          exact absurd H (by simp)

/-- THE ONE PURE STATEMENT of shuttlecocklaw04_EventExp: yours. -/
def shuttlecocklaw04_EventExp.Pure : Prop := ∀ (a0 : Int) (a1 : Int) (a2 : ByteArray), (Lit.int .i64 a0).wf = true → (Lit.int .i64 a1).wf = true → a2.size ≤ 140737488351232 → ∃ k, shuttlecocklaw04_EventExp.f k a0 a1 a2 = some true
theorem shuttlecocklaw04_EventExp.walk (P : shuttlecocklaw04_EventExp.Pure) (a0 : Int) (a1 : Int) (a2 : ByteArray) (w : World) (w0 : (Lit.int .i64 a0).wf = true) (w1 : (Lit.int .i64 a1).wf = true) (w2 : a2.size ≤ 140737488351232) :
    Calls Try.prog 7 #[.int .i64 a0, .int .i64 a1, .string a2] w fun e w' => e = .returned (.bool true) ∧ Below w.heap.size w w' := by
  obtain ⟨k, h⟩ := P a0 a1 a2 w0 w1 w2
  refine (shuttlecocklaw04_EventExp.calls k a0 a1 a2 true w h).mono ?_
  rintro e w' ⟨rfl, hd⟩
  exact ⟨rfl, hd⟩

end Go.Proofs.Ythechcflnkofgaa.Q
