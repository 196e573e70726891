-- printed by a program of this session (NOTES: hprint); not the kit's print
-- minified3
-- minified2
-- minified
-- halved
import Derived.Test.YtlmmlmmbnfcogaaOg
import Derived.Test.YtlmmlmmbnfcogaaAl
import Derived.Test.YtlmmlmmbnfcogaaQx0
import Derived.Test.YtlmmlmmbnfcogaaQx1
namespace Go.Proofs.Ytlmmlmmbnfcogaa.Q
open Go.RowKit Go.Proofs.YtlmmlmmbnfcogaaW.PrintWords Go.Proofs.YtlmmlmmbnfcogaaW.PrintLast Go.Proofs.YtlmmlmmbnfcogaaW.PrintMore
attribute [local go_sem] max2_int min2_int max_two min_two max_three min_three max_four min_four   -- for this text's walks alone
set_option linter.unusedVariables false
set_option linter.unusedSimpArgs false

attribute [local go_sem high] eqA70
/-! ### shuttlecockref06_SameStack: function 35 -/
def shuttlecockref06_SameStack.l0 : Nat → List (S70) → List (S70) → Int → Option (Bool)
 | 0, _, _, _ => none
 | k + 1, x0, x1, x5 => if x5 < (x0.length : Int) then (if 0 ≤ x5 then (if x5 < (x1.length : Int) then (if (!(((rd_T70 x0 x5).f0) == ((rd_T70 x1 x5).f0)) || (!(((rd_T70 x0 x5).f1) == ((rd_T70 x1 x5).f1)))) = true then (some false) else (shuttlecockref06_SameStack.l0 k x0 x1 (wrap64 (x5 + 1)))) else (none)) else (none)) else (some true)
def shuttlecockref06_SameStack.f (k : Nat) (l0 : List (S70)) (l1 : List (S70)) : Option (Bool) := if (l0.length : Int) = (l1.length : Int) then (shuttlecockref06_SameStack.l0 k l0 l1 0) else (some false)
theorem shuttlecockref06_SameStack.mono_l : ∀ k, (∀ y0 y1 y2, LeO (shuttlecockref06_SameStack.l0 k y0 y1 y2) (shuttlecockref06_SameStack.l0 (k + 1) y0 y1 y2))
 | 0 => fun _ _ _ r h => by simp [shuttlecockref06_SameStack.l0] at h
 | k + 1 => by
  have ih0 := shuttlecockref06_SameStack.mono_l k
  ·
   intro y0 y1 y2
   unfold shuttlecockref06_SameStack.l0
   repeat' first
   | (with_reducible exact ih0 _ _ _)
   | (with_reducible exact LeO.refl _)
   | (with_reducible exact LeO.none _)
   | (with_reducible refine LeO.ite ?_ ?_)
   | (with_reducible refine LeO.bind ?_ (fun _ => ?_))
   | exact LeO.none _
   | refine LeO.ite ?_ ?_
   | refine LeO.bind ?_ (fun _ => ?_)
theorem shuttlecockref06_SameStack.mono : ∀ a0 a1 k, LeO (shuttlecockref06_SameStack.f k a0 a1) (shuttlecockref06_SameStack.f (k + 1) a0 a1) := by
 intro a0 a1 k
 have ih0 := shuttlecockref06_SameStack.mono_l k
 unfold shuttlecockref06_SameStack.f
 repeat' first
   | (with_reducible exact ih0 _ _ _)
   | (with_reducible exact LeO.refl _)
   | (with_reducible exact LeO.none _)
   | (with_reducible refine LeO.ite ?_ ?_)
   | (with_reducible refine LeO.bind ?_ (fun _ => ?_))
   | exact LeO.none _
   | refine LeO.ite ?_ ?_
   | refine LeO.bind ?_ (fun _ => ?_)
set_option maxHeartbeats 8000000 in
set_option maxRecDepth 100000 in
theorem shuttlecockref06_SameStack.calls (k : Nat) (A0 : Option Addr) (c0 : Nat) (l0 : List (S70)) (A1 : Option Addr) (c1 : Nat) (l1 : List (S70)) (r : Bool) (w : World) (hr0 : Kd.C k70 w A0 l0.length l0) (hc0 : l0.length ≤ c0) (hr1 : Kd.C k70 w A1 l1.length l1) (hc1 : l1.length ≤ c1) (h : shuttlecockref06_SameStack.f k l0 l1 = some r) :
  Calls Try.prog 35 #[.slice A0 l0.length c0, .slice A1 l1.length c1] w fun e w' => e = .returned (.bool r) ∧ Drawn0 w w' := by
 have hu70 := Try.underlying70
 have HR0 := Am hr0
 have HC0 := Am hc0
 clear hr0 hc0
 have HR1 := Am hr1
 have HC1 := Am hc1
 clear hr1 hc1
 have H : (if (l0.length : Int) = (l1.length : Int) then (shuttlecockref06_SameStack.l0 k l0 l1 0) else (some false)) = some r := h
 clear h
 by_cases c3 : (l0.length : Int) = (l1.length : Int)
 ·
  rw [if_pos c3] at H
  have c3b0 : ((l0.length : Int) == (l1.length : Int)) = true := beq_iff_eq.mpr c3
  have c3b1 : ((l0.length : Int) != (l1.length : Int)) = false := bne_eq_false_iff_eq.mpr c3
  have c3b2 : (l0.length == l1.length) = true := by first | simpa using c3 | (simp at c3 ⊢; omega)
  clear c3
  have H' := Am H
  clear H
  go_enter Try.func35, Try.ntmps35
  go_wp2
  repeat (go_quiet (fail); try go_wp2)
  go_loopg [5] k (fun kq v5 w' => ∃ (x5_1 : Int), v5 = .int .i64 x5_1 ∧ Aside0 (shuttlecockref06_SameStack.l0 kq l0 l1 x5_1 = some r) ∧ Aside0 (kq ≤ k) ∧ Drawn0 w w')
  case atStart => exact ⟨(0), (by first | rfl | (simp; done) | (simp [*]; done) | (simp; generalize ByteArray.toList _ = l_; cases l_ <;> rfl)), H', ⟨Nat.le_refl _⟩, by repeat (first | exact Drawn0.refl _ | apply Drawn0.step)⟩
  case round =>
   clear H'
   try clear c1
   try clear p2
   try clear c3
   try clear c3b0
   try clear c3b1
   try clear c3b2
   obtain ⟨x5_1, rfl, HA, HK1, ⟨m1, rfl⟩⟩ := hrel
   cases gk with
   | zero => exact absurd HA.out (by simp [shuttlecockref06_SameStack.l0])
   | succ k1 =>
    have H := HA.out
    clear HA
    simp only [shuttlecockref06_SameStack.l0] at H
    by_cases c4 : x5_1 < (l0.length : Int)
    ·
     rw [if_pos c4] at H
     have c4b0 : decide (x5_1 < (l0.length : Int)) = true := decide_eq_true c4
     clear c4
     by_cases c5 : 0 ≤ x5_1
     ·
      rw [if_pos c5] at H
      have c5b0 : decide (0 ≤ x5_1) = true := decide_eq_true c5
      clear c5
      by_cases c6 : x5_1 < (l1.length : Int)
      ·
       rw [if_pos c6] at H
       have c6b0 : decide (x5_1 < (l1.length : Int)) = true := decide_eq_true c6
       clear c6
       by_cases c7 : (!(((rd_T70 l0 x5_1).f0) == ((rd_T70 l1 x5_1).f0)) || (!(((rd_T70 l0 x5_1).f1) == ((rd_T70 l1 x5_1).f1)))) = true
       ·
        rw [if_pos c7] at H
        have c7b0 : (!(((rd_T70 l0 x5_1).f0) == ((rd_T70 l1 x5_1).f0)) || (!(((rd_T70 l0 x5_1).f1) == ((rd_T70 l1 x5_1).f1)))) = true := c7
        try have c7b6 : (¬ ((rd_T70 l0 x5_1).f0) = ((rd_T70 l1 x5_1).f0) ∨ ¬ ((rd_T70 l0 x5_1).f1) = ((rd_T70 l1 x5_1).f1)) = True := eq_true (by first | (simpa using c7) | exact Classical.byContradiction (fun hh_ => by simp only [not_or, Classical.not_not] at hh_; simp [hh_] at c7))
        try have c7b7 : (((rd_T70 l0 x5_1).f0) = ((rd_T70 l1 x5_1).f0) ∧ ((rd_T70 l0 x5_1).f1) = ((rd_T70 l1 x5_1).f1)) = False := eq_false (by first | (intro hh_; simp [hh_] at c7; done) | simpa using c7)
        clear c7
        obtain rfl := Option.some.inj H
        have p169 : 0 ≤ (x5_1 : Int) := dz
        have q169 : x5_1 < (l0.length : Int) := dz
        obtain ⟨ad169, e169, hx169_0, hx169_1⟩ := at_T70 HR0.out x5_1 p169 q169
        cases e169
        replace p169 := eq_true p169
        replace q169 := eq_true q169
        have p170 : 0 ≤ (x5_1 : Int) := dz
        have q170 : x5_1 < (l1.length : Int) := dz
        obtain ⟨ad170, e170, hx170_0, hx170_1⟩ := at_T70 HR1.out x5_1 p170 q170
        cases e170
        replace p170 := eq_true p170
        replace q170 := eq_true q170
        go_wp2
        repeat (go_quiet (fail); try go_wp2)
        go_ret
        exact ⟨by first | rfl | (simp; done) | (simp [*]; done), by repeat (first | exact Drawn0.refl _ | apply Drawn0.step)⟩
       ·
        rw [if_neg c7] at H
        have c7b0 : (!(((rd_T70 l0 x5_1).f0) == ((rd_T70 l1 x5_1).f0)) || (!(((rd_T70 l0 x5_1).f1) == ((rd_T70 l1 x5_1).f1)))) = false := by simpa using c7
        try have c7b6 : (¬ ((rd_T70 l0 x5_1).f0) = ((rd_T70 l1 x5_1).f0) ∨ ¬ ((rd_T70 l0 x5_1).f1) = ((rd_T70 l1 x5_1).f1)) = False := eq_false (by simpa using c7)
        try have c7b7 : (((rd_T70 l0 x5_1).f0) = ((rd_T70 l1 x5_1).f0) ∧ ((rd_T70 l0 x5_1).f1) = ((rd_T70 l1 x5_1).f1)) = True := eq_true (by simpa using c7)
        clear c7
        have H' := Am H
        clear H
        have p169 : 0 ≤ (x5_1 : Int) := dz
        have q169 : x5_1 < (l0.length : Int) := dz
        obtain ⟨ad169, e169, hx169_0, hx169_1⟩ := at_T70 HR0.out x5_1 p169 q169
        cases e169
        replace p169 := eq_true p169
        replace q169 := eq_true q169
        have p170 : 0 ≤ (x5_1 : Int) := dz
        have q170 : x5_1 < (l1.length : Int) := dz
        obtain ⟨ad170, e170, hx170_0, hx170_1⟩ := at_T70 HR1.out x5_1 p170 q170
        cases e170
        replace p170 := eq_true p170
        replace q170 := eq_true q170
        go_wp2
        repeat (go_quiet (fail); try go_wp2)
        go_roundg k1
        case measure => have := HK1.out; omega
        case rel => exact ⟨(wrap64 (x5_1 + 1)), (by first | rfl | (simp; done) | (simp [*]; done) | (simp; generalize ByteArray.toList _ = l_; cases l_ <;> rfl)), H', ⟨by have := HK1.out; omega⟩, by repeat (first | exact Drawn0.refl _ | apply Drawn0.step)⟩
      ·
       rw [if_neg c6] at H
       exact absurd H (by simp)
     ·
      rw [if_neg c5] at H
      exact absurd H (by simp)
    ·
     rw [if_neg c4] at H
     have c4b0 : decide (x5_1 < (l0.length : Int)) = false := decide_eq_false c4
     clear c4
     obtain rfl := Option.some.inj H
     go_wp2
     repeat (go_quiet (fail); try go_wp2)
     go_ret
     exact ⟨by first | rfl | (simp; done) | (simp [*]; done), by repeat (first | exact Drawn0.refl _ | apply Drawn0.step)⟩
 ·
  rw [if_neg c3] at H
  have c3b0 : ((l0.length : Int) == (l1.length : Int)) = false := beq_eq_false_iff_ne.mpr c3
  have c3b1 : ((l0.length : Int) != (l1.length : Int)) = true := bne_iff_ne.mpr c3
  have c3b2 : (l0.length == l1.length) = false := by first | simpa using c3 | (simp at c3 ⊢; omega)
  obtain rfl := Option.some.inj H
  go_enter Try.func35, Try.ntmps35
  go_wp2
  repeat (go_quiet (fail); try go_wp2)
  go_ret
  exact ⟨by first | rfl | (simp; done) | (simp [*]; done), by repeat (first | exact Drawn0.refl _ | apply Drawn0.step)⟩

/-! ### shuttlecockref06_Same: function 15 -/
mutual
def shuttlecockref06_Same.j0 : Nat → Bool → List ByteArray → List (List (S70)) → List ByteArray → List (List (S70)) → Option (Bool)
 | 0, _, _, _, _, _ => none
 | k + 1, x22, x172000, x172001, x173000, x173001 => if x22 = true then (some false) else (shuttlecockref06_Same.l0 k 0 x172000 x172001 x173000 x173001)
def shuttlecockref06_Same.l0 : Nat → Int → List ByteArray → List (List (S70)) → List ByteArray → List (List (S70)) → Option (Bool)
 | 0, _, _, _, _, _ => none
 | k + 1, x5, x172000, x172001, x173000, x173001 => if x5 < (x172000.length : Int) then (if 0 ≤ x5 then (if x5 < (x173000.length : Int) then (if (rdOf ByteArray.empty x172000 x5).toList = (rdOf ByteArray.empty x173000 x5).toList then (shuttlecockref06_Same.l0 k (wrap64 (x5 + 1)) x172000 x172001 x173000 x173001) else (some false)) else (none)) else (none)) else (shuttlecockref06_Same.l1 k 0 x172000 x172001 x173000 x173001)
def shuttlecockref06_Same.l1 : Nat → Int → List ByteArray → List (List (S70)) → List ByteArray → List (List (S70)) → Option (Bool)
 | 0, _, _, _, _, _ => none
 | k + 1, x6, x172000, x172001, x173000, x173001 => if x6 < (x172001.length : Int) then (if 0 ≤ x6 then (if x6 < (x173001.length : Int) then ((shuttlecockref06_SameStack.f k (rd_L2 x172001 x6) (rd_L2 x173001 x6)).bind fun t177 => (if t177 = true then (shuttlecockref06_Same.l1 k (wrap64 (x6 + 1)) x172000 x172001 x173000 x173001) else (some false))) else (none)) else (none)) else (some true)
end
def shuttlecockref06_Same.f (k : Nat) (l0_0 : List ByteArray) (l0_1 : List (List (S70))) (l1_0 : List ByteArray) (l1_1 : List (List (S70))) : Option (Bool) := if (l0_0.length : Int) = (l1_0.length : Int) then (shuttlecockref06_Same.j0 k ((l0_1.length : Int) != (l1_1.length : Int)) l0_0 l0_1 l1_0 l1_1) else (shuttlecockref06_Same.j0 k true l0_0 l0_1 l1_0 l1_1)
theorem shuttlecockref06_Same.mono_l : ∀ k, (∀ y0 y1 y2 y3 y4, LeO (shuttlecockref06_Same.j0 k y0 y1 y2 y3 y4) (shuttlecockref06_Same.j0 (k + 1) y0 y1 y2 y3 y4)) ∧ (∀ y0 y1 y2 y3 y4, LeO (shuttlecockref06_Same.l0 k y0 y1 y2 y3 y4) (shuttlecockref06_Same.l0 (k + 1) y0 y1 y2 y3 y4)) ∧ (∀ y0 y1 y2 y3 y4, LeO (shuttlecockref06_Same.l1 k y0 y1 y2 y3 y4) (shuttlecockref06_Same.l1 (k + 1) y0 y1 y2 y3 y4))
 | 0 => ⟨fun _ _ _ _ _ r h => by simp [shuttlecockref06_Same.j0] at h, fun _ _ _ _ _ r h => by simp [shuttlecockref06_Same.l0] at h, fun _ _ _ _ _ r h => by simp [shuttlecockref06_Same.l1] at h⟩
 | k + 1 => by
  obtain ⟨ih0, ih1, ih2⟩ := shuttlecockref06_Same.mono_l k
  refine ⟨?_, ?_, ?_⟩
  ·
   intro y0 y1 y2 y3 y4
   unfold shuttlecockref06_Same.j0
   repeat' first
   | (with_reducible exact ih0 _ _ _ _ _)
   | (with_reducible exact ih1 _ _ _ _ _)
   | (with_reducible exact ih2 _ _ _ _ _)
   | (with_reducible exact shuttlecockref06_SameStack.mono _ _ _)
   | (with_reducible exact LeO.refl _)
   | (with_reducible exact LeO.none _)
   | (with_reducible refine LeO.ite ?_ ?_)
   | (with_reducible refine LeO.bind ?_ (fun _ => ?_))
   | exact LeO.none _
   | refine LeO.ite ?_ ?_
   | refine LeO.bind ?_ (fun _ => ?_)
  ·
   intro y0 y1 y2 y3 y4
   unfold shuttlecockref06_Same.l0
   repeat' first
   | (with_reducible exact ih0 _ _ _ _ _)
   | (with_reducible exact ih1 _ _ _ _ _)
   | (with_reducible exact ih2 _ _ _ _ _)
   | (with_reducible exact shuttlecockref06_SameStack.mono _ _ _)
   | (with_reducible exact LeO.refl _)
   | (with_reducible exact LeO.none _)
   | (with_reducible refine LeO.ite ?_ ?_)
   | (with_reducible refine LeO.bind ?_ (fun _ => ?_))
   | exact LeO.none _
   | refine LeO.ite ?_ ?_
   | refine LeO.bind ?_ (fun _ => ?_)
  ·
   intro y0 y1 y2 y3 y4
   unfold shuttlecockref06_Same.l1
   repeat' first
   | (with_reducible exact ih0 _ _ _ _ _)
   | (with_reducible exact ih1 _ _ _ _ _)
   | (with_reducible exact ih2 _ _ _ _ _)
   | (with_reducible exact shuttlecockref06_SameStack.mono _ _ _)
   | (with_reducible exact LeO.refl _)
   | (with_reducible exact LeO.none _)
   | (with_reducible refine LeO.ite ?_ ?_)
   | (with_reducible refine LeO.bind ?_ (fun _ => ?_))
   | exact LeO.none _
   | refine LeO.ite ?_ ?_
   | refine LeO.bind ?_ (fun _ => ?_)
theorem shuttlecockref06_Same.mono : ∀ a0 a1 a2 a3 k, LeO (shuttlecockref06_Same.f k a0 a1 a2 a3) (shuttlecockref06_Same.f (k + 1) a0 a1 a2 a3) := by
 intro a0 a1 a2 a3 k
 obtain ⟨ih0, ih1, ih2⟩ := shuttlecockref06_Same.mono_l k
 unfold shuttlecockref06_Same.f
 repeat' first
   | (with_reducible exact ih0 _ _ _ _ _)
   | (with_reducible exact ih1 _ _ _ _ _)
   | (with_reducible exact ih2 _ _ _ _ _)
   | (with_reducible exact shuttlecockref06_SameStack.mono _ _ _)
   | (with_reducible exact LeO.refl _)
   | (with_reducible exact LeO.none _)
   | (with_reducible refine LeO.ite ?_ ?_)
   | (with_reducible refine LeO.bind ?_ (fun _ => ?_))
   | exact LeO.none _
   | refine LeO.ite ?_ ?_
   | refine LeO.bind ?_ (fun _ => ?_)
set_option maxHeartbeats 8000000 in
set_option maxRecDepth 100000 in
theorem shuttlecockref06_Same.calls (k : Nat) (A0_0 : Option Addr) (c0_0 : Nat) (l0_0 : List ByteArray) (A0_1 : Option Addr) (c0_1 : Nat) (l0_1 : List (List (S70))) (A1_0 : Option Addr) (c1_0 : Nat) (l1_0 : List ByteArray) (A1_1 : Option Addr) (c1_1 : Nat) (l1_1 : List (List (S70))) (r : Bool) (w : World) (hr0_0 : Kd.C Kd.string w A0_0 l0_0.length l0_0) (hc0_0 : l0_0.length ≤ c0_0) (hr0_1 : Kd.C (Kd.slice 70 k70) w A0_1 l0_1.length l0_1) (hc0_1 : l0_1.length ≤ c0_1) (hr1_0 : Kd.C Kd.string w A1_0 l1_0.length l1_0) (hc1_0 : l1_0.length ≤ c1_0) (hr1_1 : Kd.C (Kd.slice 70 k70) w A1_1 l1_1.length l1_1) (hc1_1 : l1_1.length ≤ c1_1) (h : shuttlecockref06_Same.f k l0_0 l0_1 l1_0 l1_1 = some r) :
  Calls Try.prog 15 #[.agg #[.slice A0_0 l0_0.length c0_0, .slice A0_1 l0_1.length c0_1], .agg #[.slice A1_0 l1_0.length c1_0, .slice A1_1 l1_1.length c1_1]] w fun e w' => e = .returned (.bool r) ∧ Below w.heap.size w w' := by
 have hu25 := Try.underlying25
 have HR0_0 := Am hr0_0
 have HC0_0 := Am hc0_0
 clear hr0_0 hc0_0
 have HR0_1 := Am hr0_1
 have HC0_1 := Am hc0_1
 clear hr0_1 hc0_1
 have HR1_0 := Am hr1_0
 have HC1_0 := Am hc1_0
 clear hr1_0 hc1_0
 have HR1_1 := Am hr1_1
 have HC1_1 := Am hc1_1
 clear hr1_1 hc1_1
 have HB := Am (Below.refl w.heap.size w)
 have H : (if (l0_0.length : Int) = (l1_0.length : Int) then (shuttlecockref06_Same.j0 k ((l0_1.length : Int) != (l1_1.length : Int)) l0_0 l0_1 l1_0 l1_1) else (shuttlecockref06_Same.j0 k true l0_0 l0_1 l1_0 l1_1)) = some r := h
 clear h
 have HC3 := Am H
 clear H
 go_enter Try.func15, Try.ntmps15
 go_upto_region 1 with (first | ((with_reducible refine gate_dst (N := 2) rfl ?_); (try (refine gate_guard (by rfl) ?_; dsimp only)); refine box_event ?hg (N := 2) ?hd (cs := #[.slice A0_0 l0_0.length c0_0, .slice A0_1 l0_1.length c0_1]) (t := 25) ?hr ?_; (case hd => rfl); (case hg => rfl); (case hr => first | (go_simp; done) | (go_simp; rfl)); intro gb171 hg w4 hbox hb; have BK171 := Am (hbox); have GW171 := Am ((by rw [hg]; exact (below_size (z3)) : w.heap.size ≤ gb171)); have GE171 := GW171; replace HB := Am (below_step (z3) hb); clear hb hbox hg) | ((with_reducible refine gate_dst (N := 3) rfl ?_); (try (refine gate_guard (by rfl) ?_; dsimp only)); refine box_event ?hg (N := 3) ?hd (cs := #[.slice A1_0 l1_0.length c1_0, .slice A1_1 l1_1.length c1_1]) (t := 25) ?hr ?_; (case hd => rfl); (case hg => rfl); (case hr => first | (go_simp; done) | (go_simp; rfl)); intro gb172 hg w5 hbox hb; have BK172 := Am (hbox); have GW172 := Am ((by rw [hg]; exact (below_size (z20)) : w.heap.size ≤ gb172)); have GE172 := GW172; have NB171_172 := Am ((by rw [hg]; exact Nat.ne_of_lt (blk_lt (g := gb171) (o := .cells #[.slice A0_0 l0_0.length c0_0, .slice A0_1 l0_1.length c0_1] 25 (0, 0)) (by (with_reducible repeat (first|apply bn|apply bd|apply ba)); exact BK171.out)) : gb171 ≠ gb172)); have NB172_171 := Am NB171_172.out.symm; replace BK171 := Am (blk_below (g := gb171) (o := .cells #[.slice A0_0 l0_0.length c0_0, .slice A0_1 l0_1.length c0_1] 25 (0, 0)) (by (with_reducible repeat (first|apply bn|apply bd|apply ba)); exact BK171.out) hb); replace HB := Am (below_step (z20) hb); clear hb hbox hg))
 repeat (go_quiet (first | ((with_reducible refine gate_dst (N := 2) rfl ?_); (try (refine gate_guard (by rfl) ?_; dsimp only)); refine box_event ?hg (N := 2) ?hd (cs := #[.slice A0_0 l0_0.length c0_0, .slice A0_1 l0_1.length c0_1]) (t := 25) ?hr ?_; (case hd => rfl); (case hg => rfl); (case hr => first | (go_simp; done) | (go_simp; rfl)); intro gb171 hg w4 hbox hb; have BK171 := Am (hbox); have GW171 := Am ((by rw [hg]; exact (below_size (z3)) : w.heap.size ≤ gb171)); have GE171 := GW171; replace HB := Am (below_step (z3) hb); clear hb hbox hg) | ((with_reducible refine gate_dst (N := 3) rfl ?_); (try (refine gate_guard (by rfl) ?_; dsimp only)); refine box_event ?hg (N := 3) ?hd (cs := #[.slice A1_0 l1_0.length c1_0, .slice A1_1 l1_1.length c1_1]) (t := 25) ?hr ?_; (case hd => rfl); (case hg => rfl); (case hr => first | (go_simp; done) | (go_simp; rfl)); intro gb172 hg w5 hbox hb; have BK172 := Am (hbox); have GW172 := Am ((by rw [hg]; exact (below_size (z20)) : w.heap.size ≤ gb172)); have GE172 := GW172; have NB171_172 := Am ((by rw [hg]; exact Nat.ne_of_lt (blk_lt (g := gb171) (o := .cells #[.slice A0_0 l0_0.length c0_0, .slice A0_1 l0_1.length c0_1] 25 (0, 0)) (by (with_reducible repeat (first|apply bn|apply bd|apply ba)); exact BK171.out)) : gb171 ≠ gb172)); have NB172_171 := Am NB171_172.out.symm; replace BK171 := Am (blk_below (g := gb171) (o := .cells #[.slice A0_0 l0_0.length c0_0, .slice A0_1 l0_1.length c0_1] 25 (0, 0)) (by (with_reducible repeat (first|apply bn|apply bd|apply ba)); exact BK171.out) hb); replace HB := Am (below_step (z20) hb); clear hb hbox hg)); go_upto_region 1 with (first | ((with_reducible refine gate_dst (N := 2) rfl ?_); (try (refine gate_guard (by rfl) ?_; dsimp only)); refine box_event ?hg (N := 2) ?hd (cs := #[.slice A0_0 l0_0.length c0_0, .slice A0_1 l0_1.length c0_1]) (t := 25) ?hr ?_; (case hd => rfl); (case hg => rfl); (case hr => first | (go_simp; done) | (go_simp; rfl)); intro gb171 hg w4 hbox hb; have BK171 := Am (hbox); have GW171 := Am ((by rw [hg]; exact (below_size (z3)) : w.heap.size ≤ gb171)); have GE171 := GW171; replace HB := Am (below_step (z3) hb); clear hb hbox hg) | ((with_reducible refine gate_dst (N := 3) rfl ?_); (try (refine gate_guard (by rfl) ?_; dsimp only)); refine box_event ?hg (N := 3) ?hd (cs := #[.slice A1_0 l1_0.length c1_0, .slice A1_1 l1_1.length c1_1]) (t := 25) ?hr ?_; (case hd => rfl); (case hg => rfl); (case hr => first | (go_simp; done) | (go_simp; rfl)); intro gb172 hg w5 hbox hb; have BK172 := Am (hbox); have GW172 := Am ((by rw [hg]; exact (below_size (z20)) : w.heap.size ≤ gb172)); have GE172 := GW172; have NB171_172 := Am ((by rw [hg]; exact Nat.ne_of_lt (blk_lt (g := gb171) (o := .cells #[.slice A0_0 l0_0.length c0_0, .slice A0_1 l0_1.length c0_1] 25 (0, 0)) (by (with_reducible repeat (first|apply bn|apply bd|apply ba)); exact BK171.out)) : gb171 ≠ gb172)); have NB172_171 := Am NB171_172.out.symm; replace BK171 := Am (blk_below (g := gb171) (o := .cells #[.slice A0_0 l0_0.length c0_0, .slice A0_1 l0_1.length c0_1] 25 (0, 0)) (by (with_reducible repeat (first|apply bn|apply bd|apply ba)); exact BK171.out) hb); replace HB := Am (below_step (z20) hb); clear hb hbox hg)))
 (try simp only [Act.put, sI, sZ, sS])
 go_cut [22] (fun v22 wc => ∃ (kq : Nat) (x22_2 : Bool), v22 = .bool x22_2 ∧ Aside0 (shuttlecockref06_Same.j0 kq x22_2 l0_0 l0_1 l1_0 l1_1 = some r) ∧ Aside0 (kq ≤ k) ∧ Aside0 (wc.heap[gb171]? = some (.cells #[(.slice A0_0 l0_0.length c0_0), (.slice A0_1 l0_1.length c0_1)] 25 (0, 0))) ∧ Aside0 (wc.heap[gb172]? = some (.cells #[(.slice A1_0 l1_0.length c1_0), (.slice A1_1 l1_1.length c1_1)] 25 (0, 0))) ∧ Aside0 (Below w.heap.size w wc))
 case first =>
  have H := HC3.out
  clear HC3
  by_cases c6 : (l0_0.length : Int) = (l1_0.length : Int)
  ·
   rw [if_pos c6] at H
   have c6b0 : ((l0_0.length : Int) == (l1_0.length : Int)) = true := beq_iff_eq.mpr c6
   have c6b1 : ((l0_0.length : Int) != (l1_0.length : Int)) = false := bne_eq_false_iff_eq.mpr c6
   have c6b2 : (l0_0.length == l1_0.length) = true := by first | simpa using c6 | (simp at c6 ⊢; omega)
   clear c6
   (first | rw [c6b0] | (simp only [i64_w, i32_w]; rw [c6b0]) | skip)
   have H' := Am H
   clear H
   have hnb7 := NB171_172.out
   have hnc7 := NB172_171.out
   have hcz8_0 := Own.bc2 BK171.out 0
   have hcz8_1 := Own.bc2 BK171.out 1
   have hfz8_0 := bf BK171.out 0
   have hfz8_1 := bf BK171.out 1
   have hcz9_0 := Own.bc2 BK172.out 0
   have hcz9_1 := Own.bc2 BK172.out 1
   have hfz9_0 := bf BK172.out 0
   have hfz9_1 := bf BK172.out 1
   go_wp2
   repeat (go_quiet (fail); try go_wp2)
   go_meet
   case rel => exact ⟨_, (((l0_1.length : Int) != (l1_1.length : Int))), (by first | rfl | (simp; done) | (simp [*]; done) | (simp; generalize ByteArray.toList _ = l_; cases l_ <;> rfl)), H', ⟨by first | omega | exact Nat.le_refl _⟩, ⟨by (with_reducible repeat (first|apply bn|apply bd|apply ba)); exact BK171.out⟩, ⟨by (with_reducible repeat (first|apply bn|apply bd|apply ba)); exact BK172.out⟩, ⟨z13⟩⟩
  ·
   rw [if_neg c6] at H
   have c6b0 : ((l0_0.length : Int) == (l1_0.length : Int)) = false := beq_eq_false_iff_ne.mpr c6
   have c6b1 : ((l0_0.length : Int) != (l1_0.length : Int)) = true := bne_iff_ne.mpr c6
   have c6b2 : (l0_0.length == l1_0.length) = false := by first | simpa using c6 | (simp at c6 ⊢; omega)
   (first | rw [c6b0] | (simp only [i64_w, i32_w]; rw [c6b0]) | skip)
   have H' := Am H
   clear H
   have hnb10 := NB171_172.out
   have hnc10 := NB172_171.out
   have hcz11_0 := Own.bc2 BK171.out 0
   have hcz11_1 := Own.bc2 BK171.out 1
   have hfz11_0 := bf BK171.out 0
   have hfz11_1 := bf BK171.out 1
   have hcz12_0 := Own.bc2 BK172.out 0
   have hcz12_1 := Own.bc2 BK172.out 1
   have hfz12_0 := bf BK172.out 0
   have hfz12_1 := bf BK172.out 1
   go_wp2
   repeat (go_quiet (fail); try go_wp2)
   go_meet
   case rel => exact ⟨_, (true), (by first | rfl | (simp; done) | (simp [*]; done) | (simp; generalize ByteArray.toList _ = l_; cases l_ <;> rfl)), H', ⟨by first | omega | exact Nat.le_refl _⟩, ⟨by (with_reducible repeat (first|apply bn|apply bd|apply ba)); exact BK171.out⟩, ⟨by (with_reducible repeat (first|apply bn|apply bd|apply ba)); exact BK172.out⟩, ⟨z13⟩⟩
 case rest =>
  clear HC3
  try clear c1
  try clear p2
  try clear c6
  try clear c6b0
  try clear c6b1
  try clear c6b2
  try clear c7
  try clear c10
  try clear hcz11_0
  try clear hcz11_1
  try clear hcz12_0
  try clear hcz12_1
  try clear hcz8_0
  try clear hcz8_1
  try clear hcz9_0
  try clear hcz9_1
  try clear hfz11_0
  try clear hfz11_1
  try clear hfz12_0
  try clear hfz12_1
  try clear hfz8_0
  try clear hfz8_1
  try clear hfz9_0
  try clear hfz9_1
  obtain ⟨kq, x22_2, rfl, HA, HJ2, BK171, BK172, HB⟩ := hcut
  cases kq with
  | zero => exact absurd HA.out (by simp [shuttlecockref06_Same.j0])
  | succ kj2 =>
   have H := HA.out
   clear HA
   simp only [shuttlecockref06_Same.j0] at H
   by_cases c13 : x22_2 = true
   ·
    subst c13
    rw [if_pos rfl] at H
    obtain rfl := Option.some.inj H
    go_wp2
    repeat (go_quiet (fail); try go_wp2)
    go_ret
    exact ⟨y0, z13⟩
   ·
    replace c13 := Bool.eq_false_iff.mpr c13
    subst c13
    rw [if_neg (show ¬ (false = true) by decide)] at H
    have H' := Am H
    clear H
    go_wp2
    repeat (go_quiet (fail); try go_wp2)
    go_loopg [5] kj2 (fun kq v5 w' => ∃ (x5_2 : Int), v5 = .int .i64 x5_2 ∧ Aside0 (shuttlecockref06_Same.l0 kq x5_2 l0_0 l0_1 l1_0 l1_1 = some r) ∧ Aside0 (kq ≤ kj2) ∧ Aside0 (w'.heap[gb171]? = some (.cells #[(.slice A0_0 l0_0.length c0_0), (.slice A0_1 l0_1.length c0_1)] 25 (0, 0))) ∧ Aside0 (w'.heap[gb172]? = some (.cells #[(.slice A1_0 l1_0.length c1_0), (.slice A1_1 l1_1.length c1_1)] 25 (0, 0))) ∧ Aside0 (Below w.heap.size w w'))
    case atStart => exact ⟨(0), (by first | rfl | (simp; done) | (simp [*]; done) | (simp; generalize ByteArray.toList _ = l_; cases l_ <;> rfl)), H', ⟨Nat.le_refl _⟩, ⟨by (with_reducible repeat (first|apply bn|apply bd|apply ba)); exact BK171.out⟩, ⟨by (with_reducible repeat (first|apply bn|apply bd|apply ba)); exact BK172.out⟩, ⟨z13⟩⟩
    case round =>
     clear H'
     try clear c1
     try clear p2
     try clear c6
     try clear c6b0
     try clear c6b1
     try clear c6b2
     try clear c7
     try clear c10
     try clear c13
     try clear hcz11_0
     try clear hcz11_1
     try clear hcz12_0
     try clear hcz12_1
     try clear hcz8_0
     try clear hcz8_1
     try clear hcz9_0
     try clear hcz9_1
     try clear hfz11_0
     try clear hfz11_1
     try clear hfz12_0
     try clear hfz12_1
     try clear hfz8_0
     try clear hfz8_1
     try clear hfz9_0
     try clear hfz9_1
     try clear p2
     obtain ⟨x5_2, rfl, HA, HK2, BK171, BK172, HB⟩ := hrel
     cases gk with
     | zero => exact absurd HA.out (by simp [shuttlecockref06_Same.l0])
     | succ k2 =>
      have H := HA.out
      clear HA
      simp only [shuttlecockref06_Same.l0] at H
      by_cases c14 : x5_2 < (l0_0.length : Int)
      ·
       rw [if_pos c14] at H
       have c14b0 : decide (x5_2 < (l0_0.length : Int)) = true := decide_eq_true c14
       clear c14
       by_cases c15 : 0 ≤ x5_2
       ·
        rw [if_pos c15] at H
        have c15b0 : decide (0 ≤ x5_2) = true := decide_eq_true c15
        clear c15
        by_cases c16 : x5_2 < (l1_0.length : Int)
        ·
         rw [if_pos c16] at H
         have c16b0 : decide (x5_2 < (l1_0.length : Int)) = true := decide_eq_true c16
         clear c16
         by_cases c17 : (rdOf ByteArray.empty l0_0 x5_2).toList = (rdOf ByteArray.empty l1_0 x5_2).toList
         ·
          rw [if_pos c17] at H
          have c17b0 : ((rdOf ByteArray.empty l0_0 x5_2).toList == (rdOf ByteArray.empty l1_0 x5_2).toList) = true := beq_iff_eq.mpr c17
          have c17b1 : ((rdOf ByteArray.empty l0_0 x5_2).toList != (rdOf ByteArray.empty l1_0 x5_2).toList) = false := bne_eq_false_iff_eq.mpr c17
          clear c17
          have H' := Am H
          clear H
          have hnb18 := NB171_172.out
          have hnc18 := NB172_171.out
          have hcz19_0 := Own.bc2 BK171.out 0
          have hcz19_1 := Own.bc2 BK171.out 1
          have hfz19_0 := bf BK171.out 0
          have hfz19_1 := bf BK171.out 1
          have p173 : 0 ≤ (x5_2 : Int) := dz
          have q173 : x5_2 < (l0_0.length : Int) := dz
          obtain ⟨ad173, e173, hx173_0⟩ := Kd.at_string HR0_0.out x5_2 p173 q173
          cases e173
          replace hx173_0 := (HB.out.cell (World.block_lt_of_cell? w _ hx173_0)).trans hx173_0
          replace p173 := eq_true p173
          replace q173 := eq_true q173
          have hcz20_0 := Own.bc2 BK172.out 0
          have hcz20_1 := Own.bc2 BK172.out 1
          have hfz20_0 := bf BK172.out 0
          have hfz20_1 := bf BK172.out 1
          have p174 : 0 ≤ (x5_2 : Int) := dz
          have q174 : x5_2 < (l1_0.length : Int) := dz
          obtain ⟨ad174, e174, hx174_0⟩ := Kd.at_string HR1_0.out x5_2 p174 q174
          cases e174
          replace hx174_0 := (HB.out.cell (World.block_lt_of_cell? w _ hx174_0)).trans hx174_0
          replace p174 := eq_true p174
          replace q174 := eq_true q174
          go_wp2
          repeat (go_quiet (fail); try go_wp2)
          go_roundg k2
          case measure => have := HJ2.out; have := HK2.out; omega
          case rel => exact ⟨(wrap64 (x5_2 + 1)), (by first | rfl | (simp; done) | (simp [*]; done) | (simp; generalize ByteArray.toList _ = l_; cases l_ <;> rfl)), H', ⟨by have := HJ2.out; have := HK2.out; omega⟩, ⟨by (with_reducible repeat (first|apply bn|apply bd|apply ba)); exact BK171.out⟩, ⟨by (with_reducible repeat (first|apply bn|apply bd|apply ba)); exact BK172.out⟩, ⟨z13⟩⟩
         ·
          rw [if_neg c17] at H
          have c17b0 : ((rdOf ByteArray.empty l0_0 x5_2).toList == (rdOf ByteArray.empty l1_0 x5_2).toList) = false := beq_eq_false_iff_ne.mpr c17
          have c17b1 : ((rdOf ByteArray.empty l0_0 x5_2).toList != (rdOf ByteArray.empty l1_0 x5_2).toList) = true := bne_iff_ne.mpr c17
          obtain rfl := Option.some.inj H
          have hnb21 := NB171_172.out
          have hnc21 := NB172_171.out
          have hcz22_0 := Own.bc2 BK171.out 0
          have hcz22_1 := Own.bc2 BK171.out 1
          have hfz22_0 := bf BK171.out 0
          have hfz22_1 := bf BK171.out 1
          have p173 : 0 ≤ (x5_2 : Int) := dz
          have q173 : x5_2 < (l0_0.length : Int) := dz
          obtain ⟨ad173, e173, hx173_0⟩ := Kd.at_string HR0_0.out x5_2 p173 q173
          cases e173
          replace hx173_0 := (HB.out.cell (World.block_lt_of_cell? w _ hx173_0)).trans hx173_0
          replace p173 := eq_true p173
          replace q173 := eq_true q173
          have hcz23_0 := Own.bc2 BK172.out 0
          have hcz23_1 := Own.bc2 BK172.out 1
          have hfz23_0 := bf BK172.out 0
          have hfz23_1 := bf BK172.out 1
          have p174 : 0 ≤ (x5_2 : Int) := dz
          have q174 : x5_2 < (l1_0.length : Int) := dz
          obtain ⟨ad174, e174, hx174_0⟩ := Kd.at_string HR1_0.out x5_2 p174 q174
          cases e174
          replace hx174_0 := (HB.out.cell (World.block_lt_of_cell? w _ hx174_0)).trans hx174_0
          replace p174 := eq_true p174
          replace q174 := eq_true q174
          go_wp2
          repeat (go_quiet (fail); try go_wp2)
          go_ret
          exact ⟨y0, z13⟩
        ·
         rw [if_neg c16] at H
         exact absurd H (by simp)
       ·
        rw [if_neg c15] at H
        exact absurd H (by simp)
      ·
       rw [if_neg c14] at H
       have c14b0 : decide (x5_2 < (l0_0.length : Int)) = false := decide_eq_false c14
       clear c14
       have H' := Am H
       clear H
       have hnb24 := NB171_172.out
       have hnc24 := NB172_171.out
       have hcz25_0 := Own.bc2 BK171.out 0
       have hcz25_1 := Own.bc2 BK171.out 1
       have hfz25_0 := bf BK171.out 0
       have hfz25_1 := bf BK171.out 1
       go_wp2
       repeat (go_quiet (fail); try go_wp2)
       go_loopg [6] k2 (fun kq v6 w' => ∃ (x6_3 : Int), v6 = .int .i64 x6_3 ∧ Aside0 (shuttlecockref06_Same.l1 kq x6_3 l0_0 l0_1 l1_0 l1_1 = some r) ∧ Aside0 (kq ≤ k2) ∧ Aside0 (w'.heap[gb171]? = some (.cells #[(.slice A0_0 l0_0.length c0_0), (.slice A0_1 l0_1.length c0_1)] 25 (0, 0))) ∧ Aside0 (w'.heap[gb172]? = some (.cells #[(.slice A1_0 l1_0.length c1_0), (.slice A1_1 l1_1.length c1_1)] 25 (0, 0))) ∧ Aside0 (Below w.heap.size w w'))
       case atStart => exact ⟨(0), (by first | rfl | (simp; done) | (simp [*]; done) | (simp; generalize ByteArray.toList _ = l_; cases l_ <;> rfl)), H', ⟨Nat.le_refl _⟩, ⟨by (with_reducible repeat (first|apply bn|apply bd|apply ba)); exact BK171.out⟩, ⟨by (with_reducible repeat (first|apply bn|apply bd|apply ba)); exact BK172.out⟩, ⟨z13⟩⟩
       case round =>
        clear H'
        try clear c1
        try clear p1
        try clear q1
        try clear hx1
        try clear c2
        try clear p2
        try clear c6
        try clear c6b0
        try clear c6b1
        try clear c6b2
        try clear p6
        try clear c7
        try clear c10
        try clear c13
        try clear c14
        try clear c14b0
        try clear c15
        try clear c15b0
        try clear c16
        try clear c16b0
        try clear c17
        try clear c17b0
        try clear c17b1
        try clear p17
        try clear q17
        try clear hx17
        try clear c18
        try clear c21
        try clear c24
        try clear hcz11_0
        try clear hcz11_1
        try clear hcz12_0
        try clear hcz12_1
        try clear hcz19_0
        try clear hcz19_1
        try clear hcz20_0
        try clear hcz20_1
        try clear hcz22_0
        try clear hcz22_1
        try clear hcz23_0
        try clear hcz23_1
        try clear hcz25_0
        try clear hcz25_1
        try clear hcz8_0
        try clear hcz8_1
        try clear hcz9_0
        try clear hcz9_1
        try clear hfz11_0
        try clear hfz11_1
        try clear hfz12_0
        try clear hfz12_1
        try clear hfz19_0
        try clear hfz19_1
        try clear hfz20_0
        try clear hfz20_1
        try clear hfz22_0
        try clear hfz22_1
        try clear hfz23_0
        try clear hfz23_1
        try clear hfz25_0
        try clear hfz25_1
        try clear hfz8_0
        try clear hfz8_1
        try clear hfz9_0
        try clear hfz9_1
        try clear hx173_0
        try clear hx174_0
        try clear p173
        try clear p174
        try clear p2
        try clear q173
        try clear q174
        obtain ⟨x6_3, rfl, HA, HK3, BK171, BK172, HB⟩ := hrel
        cases gk with
        | zero => exact absurd HA.out (by simp [shuttlecockref06_Same.l1])
        | succ k3 =>
         have H := HA.out
         clear HA
         simp only [shuttlecockref06_Same.l1] at H
         by_cases c26 : x6_3 < (l0_1.length : Int)
         ·
          rw [if_pos c26] at H
          have c26b0 : decide (x6_3 < (l0_1.length : Int)) = true := decide_eq_true c26
          clear c26
          by_cases c27 : 0 ≤ x6_3
          ·
           rw [if_pos c27] at H
           have c27b0 : decide (0 ≤ x6_3) = true := decide_eq_true c27
           clear c27
           by_cases c28 : x6_3 < (l1_1.length : Int)
           ·
            rw [if_pos c28] at H
            have c28b0 : decide (x6_3 < (l1_1.length : Int)) = true := decide_eq_true c28
            clear c28
            replace H := ob H
            obtain ⟨t177, A290, H⟩ := H
            (try dsimp only at H)
            have A29 := Am A290
            clear A290
            by_cases c30 : t177 = true
            ·
             subst c30
             rw [if_pos rfl] at H
             have H' := Am H
             clear H
             have hnb31 := NB171_172.out
             have hnc31 := NB172_171.out
             have hcz32_0 := Own.bc2 BK171.out 0
             have hcz32_1 := Own.bc2 BK171.out 1
             have hfz32_0 := bf BK171.out 0
             have hfz32_1 := bf BK171.out 1
             have p175 : 0 ≤ (x6_3 : Int) := dz
             have q175 : x6_3 < (l0_1.length : Int) := dz
             obtain ⟨ad175, A175_0, c175_0, e175, hx175_0, hl175_0, hi175_0⟩ := at_L2 HR0_1.out x6_3 p175 q175
             cases e175
             replace hx175_0 := (HB.out.cell (World.block_lt_of_cell? w _ hx175_0)).trans hx175_0
             have HR175_0 := Am hi175_0
             have HC175_0 := Am hl175_0
             clear hi175_0 hl175_0
             replace p175 := eq_true p175
             replace q175 := eq_true q175
             have hcz33_0 := Own.bc2 BK172.out 0
             have hcz33_1 := Own.bc2 BK172.out 1
             have hfz33_0 := bf BK172.out 0
             have hfz33_1 := bf BK172.out 1
             have p176 : 0 ≤ (x6_3 : Int) := dz
             have q176 : x6_3 < (l1_1.length : Int) := dz
             obtain ⟨ad176, A176_0, c176_0, e176, hx176_0, hl176_0, hi176_0⟩ := at_L2 HR1_1.out x6_3 p176 q176
             cases e176
             replace hx176_0 := (HB.out.cell (World.block_lt_of_cell? w _ hx176_0)).trans hx176_0
             have HR176_0 := Am hi176_0
             have HC176_0 := Am hl176_0
             clear hi176_0 hl176_0
             replace p176 := eq_true p176
             replace q176 := eq_true q176
             go_wp2_with (first | (go_at_call 35; (with_reducible refine (shuttlecockref06_SameStack.calls k3 _ _ (rd_L2 l0_1 x6_3) _ _ (rd_L2 l1_1 x6_3) true _ ?side1 ?side2 ?side3 ?side4 A29.out).mono ?_); (case side1 => repeat (first | exact (Kd.C_below HR175_0.out HB.out) | (with_reducible refine Kd.C_alloc ?_ _) | (with_reducible refine Kd.C_drewN ?_ _) | (with_reducible refine Kd.C_drew ?_))); (case side2 => exact HC175_0.out); (case side3 => repeat (first | exact (Kd.C_below HR176_0.out HB.out) | (with_reducible refine Kd.C_alloc ?_ _) | (with_reducible refine Kd.C_drewN ?_ _) | (with_reducible refine Kd.C_drew ?_))); (case side4 => exact HC176_0.out); rintro e w' ⟨rfl, ⟨nd, rfl⟩⟩; (try first | exact ⟨rfl, _, World.drewN_drewN _ _ _⟩ | exact ⟨rfl, _, Eq.trans (World.drewN_drewN _ _ _) (congrArg (World.drewN _) (Nat.add_assoc _ _ _))⟩)))
             repeat (go_quiet (first | (go_at_call 35; (with_reducible refine (shuttlecockref06_SameStack.calls k3 _ _ (rd_L2 l0_1 x6_3) _ _ (rd_L2 l1_1 x6_3) true _ ?side1 ?side2 ?side3 ?side4 A29.out).mono ?_); (case side1 => repeat (first | exact (Kd.C_below HR175_0.out HB.out) | (with_reducible refine Kd.C_alloc ?_ _) | (with_reducible refine Kd.C_drewN ?_ _) | (with_reducible refine Kd.C_drew ?_))); (case side2 => exact HC175_0.out); (case side3 => repeat (first | exact (Kd.C_below HR176_0.out HB.out) | (with_reducible refine Kd.C_alloc ?_ _) | (with_reducible refine Kd.C_drewN ?_ _) | (with_reducible refine Kd.C_drew ?_))); (case side4 => exact HC176_0.out); rintro e w' ⟨rfl, ⟨nd, rfl⟩⟩; (try first | exact ⟨rfl, _, World.drewN_drewN _ _ _⟩ | exact ⟨rfl, _, Eq.trans (World.drewN_drewN _ _ _) (congrArg (World.drewN _) (Nat.add_assoc _ _ _))⟩))); try go_wp2_with (first | (go_at_call 35; (with_reducible refine (shuttlecockref06_SameStack.calls k3 _ _ (rd_L2 l0_1 x6_3) _ _ (rd_L2 l1_1 x6_3) true _ ?side1 ?side2 ?side3 ?side4 A29.out).mono ?_); (case side1 => repeat (first | exact (Kd.C_below HR175_0.out HB.out) | (with_reducible refine Kd.C_alloc ?_ _) | (with_reducible refine Kd.C_drewN ?_ _) | (with_reducible refine Kd.C_drew ?_))); (case side2 => exact HC175_0.out); (case side3 => repeat (first | exact (Kd.C_below HR176_0.out HB.out) | (with_reducible refine Kd.C_alloc ?_ _) | (with_reducible refine Kd.C_drewN ?_ _) | (with_reducible refine Kd.C_drew ?_))); (case side4 => exact HC176_0.out); rintro e w' ⟨rfl, ⟨nd, rfl⟩⟩; (try first | exact ⟨rfl, _, World.drewN_drewN _ _ _⟩ | exact ⟨rfl, _, Eq.trans (World.drewN_drewN _ _ _) (congrArg (World.drewN _) (Nat.add_assoc _ _ _))⟩))))
             go_roundg k3
             case measure => have := HJ2.out; have := HK2.out; have := HK3.out; omega
             case rel => exact ⟨(wrap64 (x6_3 + 1)), (by first | rfl | (simp; done) | (simp [*]; done) | (simp; generalize ByteArray.toList _ = l_; cases l_ <;> rfl)), H', ⟨by have := HJ2.out; have := HK2.out; have := HK3.out; omega⟩, ⟨by (with_reducible repeat (first|apply bn|apply bd|apply ba)); exact BK171.out⟩, ⟨by (with_reducible repeat (first|apply bn|apply bd|apply ba)); exact BK172.out⟩, ⟨z13⟩⟩
            ·
             replace c30 := Bool.eq_false_iff.mpr c30
             subst c30
             rw [if_neg (show ¬ (false = true) by decide)] at H
             obtain rfl := Option.some.inj H
             have hnb34 := NB171_172.out
             have hnc34 := NB172_171.out
             have hcz35_0 := Own.bc2 BK171.out 0
             have hcz35_1 := Own.bc2 BK171.out 1
             have hfz35_0 := bf BK171.out 0
             have hfz35_1 := bf BK171.out 1
             have p175 : 0 ≤ (x6_3 : Int) := dz
             have q175 : x6_3 < (l0_1.length : Int) := dz
             obtain ⟨ad175, A175_0, c175_0, e175, hx175_0, hl175_0, hi175_0⟩ := at_L2 HR0_1.out x6_3 p175 q175
             cases e175
             replace hx175_0 := (HB.out.cell (World.block_lt_of_cell? w _ hx175_0)).trans hx175_0
             have HR175_0 := Am hi175_0
             have HC175_0 := Am hl175_0
             clear hi175_0 hl175_0
             replace p175 := eq_true p175
             replace q175 := eq_true q175
             have hcz36_0 := Own.bc2 BK172.out 0
             have hcz36_1 := Own.bc2 BK172.out 1
             have hfz36_0 := bf BK172.out 0
             have hfz36_1 := bf BK172.out 1
             have p176 : 0 ≤ (x6_3 : Int) := dz
             have q176 : x6_3 < (l1_1.length : Int) := dz
             obtain ⟨ad176, A176_0, c176_0, e176, hx176_0, hl176_0, hi176_0⟩ := at_L2 HR1_1.out x6_3 p176 q176
             cases e176
             replace hx176_0 := (HB.out.cell (World.block_lt_of_cell? w _ hx176_0)).trans hx176_0
             have HR176_0 := Am hi176_0
             have HC176_0 := Am hl176_0
             clear hi176_0 hl176_0
             replace p176 := eq_true p176
             replace q176 := eq_true q176
             go_wp2_with (first | (go_at_call 35; (with_reducible refine (shuttlecockref06_SameStack.calls k3 _ _ (rd_L2 l0_1 x6_3) _ _ (rd_L2 l1_1 x6_3) false _ ?side1 ?side2 ?side3 ?side4 A29.out).mono ?_); (case side1 => repeat (first | exact (Kd.C_below HR175_0.out HB.out) | (with_reducible refine Kd.C_alloc ?_ _) | (with_reducible refine Kd.C_drewN ?_ _) | (with_reducible refine Kd.C_drew ?_))); (case side2 => exact HC175_0.out); (case side3 => repeat (first | exact (Kd.C_below HR176_0.out HB.out) | (with_reducible refine Kd.C_alloc ?_ _) | (with_reducible refine Kd.C_drewN ?_ _) | (with_reducible refine Kd.C_drew ?_))); (case side4 => exact HC176_0.out); rintro e w' ⟨rfl, ⟨nd, rfl⟩⟩; (try first | exact ⟨rfl, _, World.drewN_drewN _ _ _⟩ | exact ⟨rfl, _, Eq.trans (World.drewN_drewN _ _ _) (congrArg (World.drewN _) (Nat.add_assoc _ _ _))⟩)))
             repeat (go_quiet (first | (go_at_call 35; (with_reducible refine (shuttlecockref06_SameStack.calls k3 _ _ (rd_L2 l0_1 x6_3) _ _ (rd_L2 l1_1 x6_3) false _ ?side1 ?side2 ?side3 ?side4 A29.out).mono ?_); (case side1 => repeat (first | exact (Kd.C_below HR175_0.out HB.out) | (with_reducible refine Kd.C_alloc ?_ _) | (with_reducible refine Kd.C_drewN ?_ _) | (with_reducible refine Kd.C_drew ?_))); (case side2 => exact HC175_0.out); (case side3 => repeat (first | exact (Kd.C_below HR176_0.out HB.out) | (with_reducible refine Kd.C_alloc ?_ _) | (with_reducible refine Kd.C_drewN ?_ _) | (with_reducible refine Kd.C_drew ?_))); (case side4 => exact HC176_0.out); rintro e w' ⟨rfl, ⟨nd, rfl⟩⟩; (try first | exact ⟨rfl, _, World.drewN_drewN _ _ _⟩ | exact ⟨rfl, _, Eq.trans (World.drewN_drewN _ _ _) (congrArg (World.drewN _) (Nat.add_assoc _ _ _))⟩))); try go_wp2_with (first | (go_at_call 35; (with_reducible refine (shuttlecockref06_SameStack.calls k3 _ _ (rd_L2 l0_1 x6_3) _ _ (rd_L2 l1_1 x6_3) false _ ?side1 ?side2 ?side3 ?side4 A29.out).mono ?_); (case side1 => repeat (first | exact (Kd.C_below HR175_0.out HB.out) | (with_reducible refine Kd.C_alloc ?_ _) | (with_reducible refine Kd.C_drewN ?_ _) | (with_reducible refine Kd.C_drew ?_))); (case side2 => exact HC175_0.out); (case side3 => repeat (first | exact (Kd.C_below HR176_0.out HB.out) | (with_reducible refine Kd.C_alloc ?_ _) | (with_reducible refine Kd.C_drewN ?_ _) | (with_reducible refine Kd.C_drew ?_))); (case side4 => exact HC176_0.out); rintro e w' ⟨rfl, ⟨nd, rfl⟩⟩; (try first | exact ⟨rfl, _, World.drewN_drewN _ _ _⟩ | exact ⟨rfl, _, Eq.trans (World.drewN_drewN _ _ _) (congrArg (World.drewN _) (Nat.add_assoc _ _ _))⟩))))
             go_ret
             exact ⟨y0, z13⟩
           ·
            rw [if_neg c28] at H
            exact absurd H (by simp)
          ·
           rw [if_neg c27] at H
           exact absurd H (by simp)
         ·
          rw [if_neg c26] at H
          have c26b0 : decide (x6_3 < (l0_1.length : Int)) = false := decide_eq_false c26
          clear c26
          obtain rfl := Option.some.inj H
          have hnb37 := NB171_172.out
          have hnc37 := NB172_171.out
          have hcz38_0 := Own.bc2 BK171.out 0
          have hcz38_1 := Own.bc2 BK171.out 1
          have hfz38_0 := bf BK171.out 0
          have hfz38_1 := bf BK171.out 1
          go_wp2
          repeat (go_quiet (fail); try go_wp2)
          go_ret
          exact ⟨y0, z13⟩

/-! ### shuttlecocklaw07_some: function 17 -/
def shuttlecocklaw07_some.f  : Option (List ByteArray × (List (List (S70)))) := some ((([(⟨#[97]⟩ : ByteArray), (⟨#[98]⟩ : ByteArray)] : List ByteArray)), (([(([(⟨2, 3⟩ : S70)] : List (S70)))] : List (List (S70)))))
set_option maxHeartbeats 8000000 in
set_option maxRecDepth 100000 in
theorem shuttlecocklaw07_some.calls  (r1 : List ByteArray) (r2 : List (List (S70))) (w : World) (h : shuttlecocklaw07_some.f  = some (r1, r2)) :
  Calls Try.prog 17 #[] w fun e w' => ∃ v0_ v1_ : Value, e = .returned (.agg #[v0_, v1_]) ∧ Kd.R Kd.string 9 w' w.heap.size (fun k_ => (w.heap.size ≤ k_)) v0_ r1 ∧ Kd.N (Kd.slice 70 k70) 42 w' w.heap.size (fun k_ => (w.heap.size ≤ k_) ∧ some k_ ≠ (v0_ : Value).ownBlock) v1_ r2 ∧ Below w.heap.size w w' := by
 have hu25 := Try.underlying25
 have hu70 := Try.underlying70
 have HB := Am (Below.refl w.heap.size w)
 have H : (some ((([(⟨#[97]⟩ : ByteArray), (⟨#[98]⟩ : ByteArray)] : List ByteArray)), (([(([(⟨2, 3⟩ : S70)] : List (S70)))] : List (List (S70)))))) = some (r1, r2) := h
 clear h
 obtain ⟨y179, hy179⟩ : ∃ y_ : List ByteArray, y_ = (([(⟨#[97]⟩ : ByteArray), (⟨#[98]⟩ : ByteArray)] : List ByteArray)) := ⟨_, rfl⟩
 replace H : (some (y179, (([(([(⟨2, 3⟩ : S70)] : List (S70)))] : List (List (S70)))))) = some (r1, r2) := by first | (rw [hy179]; with_reducible exact H) | (have H2_ := (Option.bind_some _ _).symm.trans H; rw [hy179]; with_reducible exact H2_) | (have H2_ := (Option.bind_some _ _).symm.trans H; with_reducible exact H2_) | with_reducible exact H | (rw [hy179]; exact H) | exact H
 have Ny179 := Am hy179
 clear hy179
 obtain ⟨y182, hy182⟩ : ∃ y_ : List (S70), y_ = (([(⟨2, 3⟩ : S70)] : List (S70))) := ⟨_, rfl⟩
 replace H : (some (y179, (([y182] : List (List (S70)))))) = some (r1, r2) := by first | (rw [hy182]; with_reducible exact H) | (have H2_ := (Option.bind_some _ _).symm.trans H; rw [hy182]; with_reducible exact H2_) | (have H2_ := (Option.bind_some _ _).symm.trans H; with_reducible exact H2_) | with_reducible exact H | (rw [hy182]; exact H) | exact H
 have Ny182 := Am hy182
 clear hy182
 obtain ⟨y185, hy185⟩ : ∃ y_ : List (List (S70)), y_ = (([y182] : List (List (S70)))) := ⟨_, rfl⟩
 replace H : (some (y179, y185)) = some (r1, r2) := by first | (rw [hy185]; with_reducible exact H) | (have H2_ := (Option.bind_some _ _).symm.trans H; rw [hy185]; with_reducible exact H2_) | (have H2_ := (Option.bind_some _ _).symm.trans H; with_reducible exact H2_) | with_reducible exact H | (rw [hy185]; exact H) | exact H
 have Ny185 := Am hy185
 clear hy185
 simp only [Option.some.injEq, Prod.mk.injEq] at H
 obtain ⟨rfl, rfl⟩ := H
 go_enter Try.func17, Try.ntmps17
 go_wp2_with (first | ((with_reducible refine gate_dst (N := 0) rfl ?_); refine box_event ?hg (N := 0) ?hd (cs := #[.slice none 0 0, .slice none 0 0]) (t := 25) ?hr ?_; (case hd => rfl); (case hg => rfl); (case hr => first | (go_simp; done) | (go_simp; rfl)); intro gb178 hg w1 hbox hb; have BK178 := Am (hbox); have GW178 := Am ((by rw [hg]; exact (below_size (z3)) : w.heap.size ≤ gb178)); have GE178 := GW178; replace HB := Am (below_step (z3) hb); clear hb hbox hg) | ((with_reducible refine gate_dst (N := 1) rfl ?_); refine Kd.R_lit Kd.string _ 9 ?hg (N := 1) ?hd (xs := ([(⟨#[97]⟩ : ByteArray), (⟨#[98]⟩ : ByteArray)] : List ByteArray)) (inner := [.string (⟨#[97]⟩ : ByteArray), .string (⟨#[98]⟩ : ByteArray)]) (ok := fun _ => True) (okp := fun _ => True) ?hr ?hp (fun _ hk => hk) trivial (Below.refl _ _) (Nat.le_refl _) (by simp) ?_; (case hd => rfl); (case hg => rfl); (case hr => first | (go_simp; done) | (go_simp; rfl)); (case hp => exact (Reps.one (show Kd.M Kd.string _ _ _ (⟨#[97]⟩ : ByteArray) [.string (⟨#[97]⟩ : ByteArray)] from rfl) (Reps.one (show Kd.M Kd.string _ _ _ (⟨#[98]⟩ : ByteArray) [.string (⟨#[98]⟩ : ByteArray)] from rfl) (Reps.none _ _)))); intro v180 w2 ho3 hb hg_ hnew_; clear hg_ hnew_; (first | rw [← Ny179.out] at ho3 | (simp only [Int.reduceToNat] at ho3; rw [← Ny179.out] at ho3)); have HO181 := Am (Kd.R_lower (Kd.R_newM (M := fun k_ => (w.heap.size ≤ k_)) ho3 (below_size (z14)) (fun k_ h_ => h_)) (below_size (z14))); replace BK178 := Am (blk_below (g := gb178) (o := .cells #[.slice none 0 0, .slice none 0 0] 25 (0, 0)) (by (with_reducible repeat (first|apply bn|apply bd|apply ba)); exact BK178.out) hb); replace HB := Am (below_step (z14) hb); clear hb ho3) | ((with_reducible refine gate_dst (N := 3) rfl ?_); refine Kd.R_lit k70 _ 70 ?hg (N := 3) ?hd (xs := ([(⟨2, 3⟩ : S70)] : List (S70))) (inner := [.int .i64 2, .int .i64 3]) (ok := fun _ => True) (okp := fun _ => True) ?hr ?hp (fun _ hk => hk) trivial (Below.refl _ _) (Nat.le_refl _) (by simp) ?_; (case hd => rfl); (case hg => rfl); (case hr => first | (go_simp; done) | (go_simp; rfl)); (case hp => exact (Reps.c2 (show Kd.M k70 _ _ _ (⟨2, 3⟩ : S70) [.int .i64 2, .int .i64 3] from (k70_mkM _ _ _ (⟨2, 3⟩ : S70) )) (Reps.none _ _))); intro v183 w4 ho5 hb hg_ hnew_; clear hg_ hnew_; (first | rw [← Ny182.out] at ho5 | (simp only [Int.reduceToNat] at ho5; rw [← Ny182.out] at ho5)); have HO184 := Am (Kd.R_lower (Kd.R_newM (M := fun k_ => (w.heap.size ≤ k_)) ho5 (below_size (z14)) (fun k_ h_ => h_)) (below_size (z14))); replace HO181 := Am (Kd.R_below (by (with_reducible repeat (first | apply Kd.R_alloc | apply Kd.R_drewN | apply Kd.R_drew)); exact HO181.out) hb); replace BK178 := Am (blk_below (g := gb178) (o := .cells #[.slice none 0 0, .slice none 0 0] 25 (0, 0)) (by (with_reducible repeat (first|apply bn|apply bd|apply ba)); exact BK178.out) hb); replace HB := Am (below_step (z14) hb); clear hb ho5; obtain ⟨Ao6, co6, eo6⟩ := Kd.R_slice HO184.out; subst eo6) | ((with_reducible refine gate_dst (N := 4) rfl ?_); refine Kd.N_lit (Kd.slice 70 k70) _ 42 ?hg (N' := 4) ?hd (xs := ([y182] : List (List (S70)))) (inner := [.slice Ao6 y182.length co6]) (ok := (fun k_ => (w.heap.size ≤ k_) ∧ some k_ ≠ (v180 : Value).ownBlock ∧ k_ ≠ gb178)) (okp := (fun k_ => (w.heap.size ≤ k_) ∧ some k_ ≠ (v180 : Value).ownBlock ∧ k_ ≠ gb178)) ?hr ?hp (fun _ hk => hk) ((show ∀ k_, w4.heap.size ≤ k_ → (fun k_ => (w.heap.size ≤ k_) ∧ some k_ ≠ (v180 : Value).ownBlock ∧ k_ ≠ gb178) k_ from fun k_ hk => ⟨(Nat.le_trans (below_size (z14)) hk), Kd.fresh' (Kd.R_lt (by (with_reducible repeat (first | apply Kd.R_alloc | apply Kd.R_drewN | apply Kd.R_drew)); exact HO181.out)) k_ hk, Kd.freshB (g := gb178) (o := .cells #[.slice none 0 0, .slice none 0 0] 25 (0, 0)) (by (with_reducible repeat (first|apply bn|apply bd|apply ba)); exact BK178.out) k_ hk⟩) _ (Nat.le_refl _)) (Below.refl _ _) (Nat.le_refl _) (by simp) ?_; (case hd => rfl); (case hg => rfl); (case hr => first | (go_simp; done) | (go_simp; rfl)); (case hp => exact (Reps.one (show Kd.FK (Kd.slice 70 k70) _ _ y182 [.slice Ao6 y182.length co6] from (Kd.FK_slice_mk (Kd.R_reads' (Kd.R_mono (ok' := (fun k_ => (w.heap.size ≤ k_) ∧ some k_ ≠ (v180 : Value).ownBlock ∧ k_ ≠ gb178)) (Kd.R_types (Kd.R_apart' (HO184.out) (Kd.R_typed HO181.out) (by decide)) BK178.out (by decide)) (fun k_ hk => ⟨hk.1.1.1, ⟨hk.1.2, hk.2⟩⟩))).2.1 (Kd.R_F (Kd.R_mono (ok' := (fun k_ => (w.heap.size ≤ k_) ∧ some k_ ≠ (v180 : Value).ownBlock ∧ k_ ≠ gb178)) (Kd.R_types (Kd.R_apart' (HO184.out) (Kd.R_typed HO181.out) (by decide)) BK178.out (by decide)) (fun k_ hk => ⟨hk.1.1.1, ⟨hk.1.2, hk.2⟩⟩))))) (Reps.none _ _))); intro v186 w7 ho8 hb hg_ hnew_; clear hg_ hnew_; (first | rw [← Ny185.out] at ho8 | (simp only [Int.reduceToNat] at ho8; rw [← Ny185.out] at ho8)); have n0_ := Am (Kd.R_below (by (with_reducible repeat (first | apply Kd.R_alloc | apply Kd.R_drewN | apply Kd.R_drew)); exact HO181.out) hb); have n1_ := Am (Kd.N_lower ho8 (below_size (z14))); have n2_ := Am (blk_below (g := gb178) (o := .cells #[.slice none 0 0, .slice none 0 0] 25 (0, 0)) (by (with_reducible repeat (first|apply bn|apply bd|apply ba)); exact BK178.out) hb); have n3_ := Am (below_step (z14) hb); clear HO181; clear BK178; clear HB; clear HO184; have HO181 := n0_; have HO187 := n1_; have BK178 := n2_; have HB := n3_; clear n0_ n1_ n2_ n3_; clear hb ho8; obtain ⟨Ao9, co9, eo9⟩ := Kd.N_slice HO187.out; subst eo9; obtain ⟨Ao10, co10, eo10⟩ := Kd.R_slice HO181.out; subst eo10; have hcz11_0 := Own.bc2 BK178.out 0; have hcz11_1 := Own.bc2 BK178.out 1; have hfz11_0 := bf BK178.out 0; have hfz11_1 := bf BK178.out 1))
 refine bodyPost_ret (results_cell_row rfl _ _ gb178 25 #[.slice Ao10 y179.length co10, .slice Ao9 y185.length co9] (0, 0) _ rfl (by (with_reducible repeat (first|apply bn|apply bd|apply ba)); refine blk_put (cs := #[.slice Ao10 y179.length co10, .slice none 0 0]) ?_ 1 _ rfl; (with_reducible repeat (first|apply bn|apply bd|apply ba)); refine blk_put (cs := #[.slice none 0 0, .slice none 0 0]) ?_ 0 _ rfl; (with_reducible repeat (first|apply bn|apply bd|apply ba)); exact BK178.out) Try.underlying25 rfl (by kernel_rfl)) rfl ?_
 exact ⟨_, _, y0, by (with_reducible repeat (first | apply Kd.R_alloc | apply Kd.R_drewN | apply Kd.R_drew)); exact Kd.R_mono (Kd.R_far (p := ⟨gb178, 1, none⟩) (Kd.R_far (p := ⟨gb178, 0, none⟩) (Kd.R_types HO181.out BK178.out (by decide)) (fun _ hk => hk.2) (.slice Ao10 y179.length co10)) (fun _ hk => hk.2) (.slice Ao9 y185.length co9)) (fun _ hk => hk.1.1), by (with_reducible repeat (first | apply Kd.N_alloc | apply Kd.N_drewN | apply Kd.N_drew)); exact Kd.N_mono (Kd.N_far (p := ⟨gb178, 1, none⟩) (Kd.N_far (p := ⟨gb178, 0, none⟩) (Kd.N_mono HO187.out (fun k_ hk => (⟨hk, hk.2.2⟩ : _ ∧ k_ ≠ gb178))) (fun _ hk => hk.2) (.slice Ao10 y179.length co10)) (fun _ hk => hk.2) (.slice Ao9 y185.length co9)) (fun _ hk => ⟨hk.1.1, hk.1.2.1⟩), z14⟩

end Go.Proofs.Ytlmmlmmbnfcogaa.Q
