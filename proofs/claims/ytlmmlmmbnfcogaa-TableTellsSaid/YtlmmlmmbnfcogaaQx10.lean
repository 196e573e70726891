-- printed by a program of this session (NOTES: hprint); not the kit's print
-- minified3
-- minified2
-- minified
-- halved
import Derived.Test.YtlmmlmmbnfcogaaOg
import Derived.Test.YtlmmlmmbnfcogaaAl
import Derived.Test.YtlmmlmmbnfcogaaQx0
import Derived.Test.YtlmmlmmbnfcogaaQx8
namespace Go.Proofs.Ytlmmlmmbnfcogaa.Q
open Go.RowKit Go.Proofs.YtlmmlmmbnfcogaaW.PrintWords Go.Proofs.YtlmmlmmbnfcogaaW.PrintLast Go.Proofs.YtlmmlmmbnfcogaaW.PrintMore
attribute [local go_sem] max2_int min2_int max_two min_two max_three min_three max_four min_four   -- for this text's walks alone
set_option linter.unusedVariables false
set_option linter.unusedSimpArgs false

/-! ### shuttlecockref06_find: function 36 -/
def shuttlecockref06_find.l0 : Nat → List ByteArray → ByteArray → Int → Option (Int)
 | 0, _, _, _ => none
 | k + 1, x0, x1, x5 => if x5 < (x0.length : Int) then (if 0 ≤ x5 then (if (rdOf ByteArray.empty x0 x5).toList = x1.toList then (some x5) else (shuttlecockref06_find.l0 k x0 x1 (wrap64 (x5 + 1)))) else (none)) else (some (-1))
def shuttlecockref06_find.f (k : Nat) (l0 : List ByteArray) (a1 : ByteArray) : Option (Int) := shuttlecockref06_find.l0 k l0 a1 0
theorem shuttlecockref06_find.mono_l : ∀ k, (∀ y0 y1 y2, LeO (shuttlecockref06_find.l0 k y0 y1 y2) (shuttlecockref06_find.l0 (k + 1) y0 y1 y2))
 | 0 => fun _ _ _ r h => by simp [shuttlecockref06_find.l0] at h
 | k + 1 => by
  have ih0 := shuttlecockref06_find.mono_l k
  ·
   intro y0 y1 y2
   unfold shuttlecockref06_find.l0
   repeat' first
   | (with_reducible exact ih0 _ _ _)
   | (with_reducible exact LeO.refl _)
   | (with_reducible exact LeO.none _)
   | (with_reducible refine LeO.ite ?_ ?_)
   | (with_reducible refine LeO.bind ?_ (fun _ => ?_))
   | exact LeO.none _
   | refine LeO.ite ?_ ?_
   | refine LeO.bind ?_ (fun _ => ?_)
theorem shuttlecockref06_find.mono : ∀ a0 a1 k, LeO (shuttlecockref06_find.f k a0 a1) (shuttlecockref06_find.f (k + 1) a0 a1) := by
 intro a0 a1 k
 have ih0 := shuttlecockref06_find.mono_l k
 unfold shuttlecockref06_find.f
 repeat' first
   | (with_reducible exact ih0 _ _ _)
   | (with_reducible exact LeO.refl _)
   | (with_reducible exact LeO.none _)
   | (with_reducible refine LeO.ite ?_ ?_)
   | (with_reducible refine LeO.bind ?_ (fun _ => ?_))
   | exact LeO.none _
   | refine LeO.ite ?_ ?_
   | refine LeO.bind ?_ (fun _ => ?_)
set_option maxHeartbeats 8000000 in
set_option maxRecDepth 100000 in
theorem shuttlecockref06_find.calls (k : Nat) (A0 : Option Addr) (c0 : Nat) (l0 : List ByteArray) (a1 : ByteArray) (r : Int) (w : World) (hr0 : Kd.C Kd.string w A0 l0.length l0) (hc0 : l0.length ≤ c0) (h : shuttlecockref06_find.f k l0 a1 = some r) :
  Calls Try.prog 36 #[.slice A0 l0.length c0, .string a1] w fun e w' => e = .returned (.int .i64 r) ∧ Drawn0 w w' := by
 have HR0 := Am hr0
 have HC0 := Am hc0
 clear hr0 hc0
 have H : (shuttlecockref06_find.l0 k l0 a1 0) = some r := h
 clear h
 have H' := Am H
 clear H
 go_enter Try.func36, Try.ntmps36
 go_wp2
 go_loopg [5] k (fun kq v5 w' => ∃ (x5_1 : Int), v5 = .int .i64 x5_1 ∧ Aside0 (shuttlecockref06_find.l0 kq l0 a1 x5_1 = some r) ∧ Aside0 (kq ≤ k) ∧ Drawn0 w w')
 case atStart => exact ⟨(0), (by first | rfl | (simp; done) | (simp [*]; done) | (simp; generalize ByteArray.toList _ = l_; cases l_ <;> rfl)), H', ⟨Nat.le_refl _⟩, by repeat (first | exact Drawn0.refl _ | apply Drawn0.step)⟩
 case round =>
  clear H'
  try clear p2
  obtain ⟨x5_1, rfl, HA, HK1, ⟨m1, rfl⟩⟩ := hrel
  cases gk with
  | zero => exact absurd HA.out (by simp [shuttlecockref06_find.l0])
  | succ k1 =>
   have H := HA.out
   clear HA
   simp only [shuttlecockref06_find.l0] at H
   by_cases c3 : x5_1 < (l0.length : Int)
   ·
    rw [if_pos c3] at H
    have c3b0 : decide (x5_1 < (l0.length : Int)) = true := decide_eq_true c3
    clear c3
    by_cases c4 : 0 ≤ x5_1
    ·
     rw [if_pos c4] at H
     have c4b0 : decide (0 ≤ x5_1) = true := decide_eq_true c4
     clear c4
     by_cases c5 : (rdOf ByteArray.empty l0 x5_1).toList = a1.toList
     ·
      rw [if_pos c5] at H
      have c5b0 : ((rdOf ByteArray.empty l0 x5_1).toList == a1.toList) = true := beq_iff_eq.mpr c5
      have c5b1 : ((rdOf ByteArray.empty l0 x5_1).toList != a1.toList) = false := bne_eq_false_iff_eq.mpr c5
      clear c5
      obtain rfl := Option.some.inj H
      have p188 : 0 ≤ (x5_1 : Int) := dz
      have q188 : x5_1 < (l0.length : Int) := dz
      obtain ⟨ad188, e188, hx188_0⟩ := Kd.at_string HR0.out x5_1 p188 q188
      cases e188
      replace p188 := eq_true p188
      replace q188 := eq_true q188
      go_wp2
      go_ret
      exact ⟨by first | rfl | (simp; done) | (simp [*]; done), by repeat (first | exact Drawn0.refl _ | apply Drawn0.step)⟩
     ·
      rw [if_neg c5] at H
      have c5b0 : ((rdOf ByteArray.empty l0 x5_1).toList == a1.toList) = false := beq_eq_false_iff_ne.mpr c5
      have c5b1 : ((rdOf ByteArray.empty l0 x5_1).toList != a1.toList) = true := bne_iff_ne.mpr c5
      have H' := Am H
      clear H
      have p188 : 0 ≤ (x5_1 : Int) := dz
      have q188 : x5_1 < (l0.length : Int) := dz
      obtain ⟨ad188, e188, hx188_0⟩ := Kd.at_string HR0.out x5_1 p188 q188
      cases e188
      replace p188 := eq_true p188
      replace q188 := eq_true q188
      go_wp2
      go_roundg k1
      case measure => have := HK1.out; omega
      case rel => exact ⟨(wrap64 (x5_1 + 1)), (by first | rfl | (simp; done) | (simp [*]; done) | (simp; generalize ByteArray.toList _ = l_; cases l_ <;> rfl)), H', ⟨by have := HK1.out; omega⟩, by repeat (first | exact Drawn0.refl _ | apply Drawn0.step)⟩
    ·
     rw [if_neg c4] at H
     exact absurd H (by simp)
   ·
    rw [if_neg c3] at H
    have c3b0 : decide (x5_1 < (l0.length : Int)) = false := decide_eq_false c3
    clear c3
    obtain rfl := Option.some.inj H
    go_wp2
    go_ret
    exact ⟨by first | rfl | (simp; done) | (simp [*]; done), by repeat (first | exact Drawn0.refl _ | apply Drawn0.step)⟩

/-! ### shuttlecockref06_stack: function 37 -/
def shuttlecockref06_stack.l0 : Nat → List (List (S70)) → List (S70) → Int → Option (Int)
 | 0, _, _, _ => none
 | k + 1, x0, x1, x5 => if x5 < (x0.length : Int) then (if 0 ≤ x5 then ((shuttlecockref06_SameStack.f k (rd_L2 x0 x5) x1).bind fun t190 => (if t190 = true then (some x5) else (shuttlecockref06_stack.l0 k x0 x1 (wrap64 (x5 + 1))))) else (none)) else (some (-1))
def shuttlecockref06_stack.f (k : Nat) (l0 : List (List (S70))) (l1 : List (S70)) : Option (Int) := shuttlecockref06_stack.l0 k l0 l1 0
theorem shuttlecockref06_stack.mono_l : ∀ k, (∀ y0 y1 y2, LeO (shuttlecockref06_stack.l0 k y0 y1 y2) (shuttlecockref06_stack.l0 (k + 1) y0 y1 y2))
 | 0 => fun _ _ _ r h => by simp [shuttlecockref06_stack.l0] at h
 | k + 1 => by
  have ih0 := shuttlecockref06_stack.mono_l k
  ·
   intro y0 y1 y2
   unfold shuttlecockref06_stack.l0
   repeat' first
   | (with_reducible exact ih0 _ _ _)
   | (with_reducible exact shuttlecockref06_SameStack.mono _ _ _)
   | (with_reducible exact LeO.refl _)
   | (with_reducible exact LeO.none _)
   | (with_reducible refine LeO.ite ?_ ?_)
   | (with_reducible refine LeO.bind ?_ (fun _ => ?_))
   | exact LeO.none _
   | refine LeO.ite ?_ ?_
   | refine LeO.bind ?_ (fun _ => ?_)
theorem shuttlecockref06_stack.mono : ∀ a0 a1 k, LeO (shuttlecockref06_stack.f k a0 a1) (shuttlecockref06_stack.f (k + 1) a0 a1) := by
 intro a0 a1 k
 have ih0 := shuttlecockref06_stack.mono_l k
 unfold shuttlecockref06_stack.f
 repeat' first
   | (with_reducible exact ih0 _ _ _)
   | (with_reducible exact shuttlecockref06_SameStack.mono _ _ _)
   | (with_reducible exact LeO.refl _)
   | (with_reducible exact LeO.none _)
   | (with_reducible refine LeO.ite ?_ ?_)
   | (with_reducible refine LeO.bind ?_ (fun _ => ?_))
   | exact LeO.none _
   | refine LeO.ite ?_ ?_
   | refine LeO.bind ?_ (fun _ => ?_)
set_option maxHeartbeats 8000000 in
set_option maxRecDepth 100000 in
theorem shuttlecockref06_stack.calls (k : Nat) (A0 : Option Addr) (c0 : Nat) (l0 : List (List (S70))) (A1 : Option Addr) (c1 : Nat) (l1 : List (S70)) (r : Int) (w : World) (hr0 : Kd.C (Kd.slice 70 k70) w A0 l0.length l0) (hc0 : l0.length ≤ c0) (hr1 : Kd.C k70 w A1 l1.length l1) (hc1 : l1.length ≤ c1) (h : shuttlecockref06_stack.f k l0 l1 = some r) :
  Calls Try.prog 37 #[.slice A0 l0.length c0, .slice A1 l1.length c1] w fun e w' => e = .returned (.int .i64 r) ∧ Drawn0 w w' := by
 have HR0 := Am hr0
 have HC0 := Am hc0
 clear hr0 hc0
 have HR1 := Am hr1
 have HC1 := Am hc1
 clear hr1 hc1
 have H : (shuttlecockref06_stack.l0 k l0 l1 0) = some r := h
 clear h
 have H' := Am H
 clear H
 go_enter Try.func37, Try.ntmps37
 go_wp2
 go_loopg [5] k (fun kq v5 w' => ∃ (x5_1 : Int), v5 = .int .i64 x5_1 ∧ Aside0 (shuttlecockref06_stack.l0 kq l0 l1 x5_1 = some r) ∧ Aside0 (kq ≤ k) ∧ Drawn0 w w')
 case atStart => exact ⟨(0), (by first | rfl | (simp; done) | (simp [*]; done) | (simp; generalize ByteArray.toList _ = l_; cases l_ <;> rfl)), H', ⟨Nat.le_refl _⟩, by repeat (first | exact Drawn0.refl _ | apply Drawn0.step)⟩
 case round =>
  clear H'
  try clear c1
  try clear p2
  obtain ⟨x5_1, rfl, HA, HK1, ⟨m1, rfl⟩⟩ := hrel
  cases gk with
  | zero => exact absurd HA.out (by simp [shuttlecockref06_stack.l0])
  | succ k1 =>
   have H := HA.out
   clear HA
   simp only [shuttlecockref06_stack.l0] at H
   by_cases c3 : x5_1 < (l0.length : Int)
   ·
    rw [if_pos c3] at H
    have c3b0 : decide (x5_1 < (l0.length : Int)) = true := decide_eq_true c3
    clear c3
    by_cases c4 : 0 ≤ x5_1
    ·
     rw [if_pos c4] at H
     have c4b0 : decide (0 ≤ x5_1) = true := decide_eq_true c4
     clear c4
     replace H := ob H
     obtain ⟨t190, A50, H⟩ := H
     (try dsimp only at H)
     have A5 := Am A50
     clear A50
     by_cases c6 : t190 = true
     ·
      subst c6
      rw [if_pos rfl] at H
      obtain rfl := Option.some.inj H
      have p189 : 0 ≤ (x5_1 : Int) := dz
      have q189 : x5_1 < (l0.length : Int) := dz
      obtain ⟨ad189, A189_0, c189_0, e189, hx189_0, hl189_0, hi189_0⟩ := at_L2 HR0.out x5_1 p189 q189
      cases e189
      have HR189_0 := Am hi189_0
      have HC189_0 := Am hl189_0
      clear hi189_0 hl189_0
      replace p189 := eq_true p189
      replace q189 := eq_true q189
      go_wp2_with (first | ((with_reducible refine gate_callee (f := 35) rfl ?_); refine Own.gL_ (some 17) Try.func35 (#[.slice A189_0 (rd_L2 l0 x5_1).length c189_0, .slice A1 l1.length c1]) (h := ?_); (with_reducible refine (shuttlecockref06_SameStack.calls k1 _ _ (rd_L2 l0 x5_1) _ _ l1 true _ ?side1 ?side2 ?side3 ?side4 A5.out).mono ?_); (case side1 => repeat (first | exact HR189_0.out | (with_reducible refine Kd.C_alloc ?_ _) | (with_reducible refine Kd.C_drewN ?_ _) | (with_reducible refine Kd.C_drew ?_))); (case side2 => exact HC189_0.out); (case side3 => repeat (first | exact HR1.out | (with_reducible refine Kd.C_alloc ?_ _) | (with_reducible refine Kd.C_drewN ?_ _) | (with_reducible refine Kd.C_drew ?_))); (case side4 => exact HC1.out); rintro e w' ⟨rfl, ⟨nd, rfl⟩⟩; refine ⟨_, rfl, ?_⟩))
      go_ret
      exact ⟨by first | rfl | (simp; done) | (simp [*]; done), by repeat (first | exact Drawn0.refl _ | apply Drawn0.step)⟩
     ·
      replace c6 := Bool.eq_false_iff.mpr c6
      subst c6
      rw [if_neg (show ¬ (false = true) by decide)] at H
      have H' := Am H
      clear H
      have p189 : 0 ≤ (x5_1 : Int) := dz
      have q189 : x5_1 < (l0.length : Int) := dz
      obtain ⟨ad189, A189_0, c189_0, e189, hx189_0, hl189_0, hi189_0⟩ := at_L2 HR0.out x5_1 p189 q189
      cases e189
      have HR189_0 := Am hi189_0
      have HC189_0 := Am hl189_0
      clear hi189_0 hl189_0
      replace p189 := eq_true p189
      replace q189 := eq_true q189
      go_wp2_with (first | ((with_reducible refine gate_callee (f := 35) rfl ?_); refine Own.gL_ (some 17) Try.func35 (#[.slice A189_0 (rd_L2 l0 x5_1).length c189_0, .slice A1 l1.length c1]) (h := ?_); (with_reducible refine (shuttlecockref06_SameStack.calls k1 _ _ (rd_L2 l0 x5_1) _ _ l1 false _ ?side1 ?side2 ?side3 ?side4 A5.out).mono ?_); (case side1 => repeat (first | exact HR189_0.out | (with_reducible refine Kd.C_alloc ?_ _) | (with_reducible refine Kd.C_drewN ?_ _) | (with_reducible refine Kd.C_drew ?_))); (case side2 => exact HC189_0.out); (case side3 => repeat (first | exact HR1.out | (with_reducible refine Kd.C_alloc ?_ _) | (with_reducible refine Kd.C_drewN ?_ _) | (with_reducible refine Kd.C_drew ?_))); (case side4 => exact HC1.out); rintro e w' ⟨rfl, ⟨nd, rfl⟩⟩; refine ⟨_, rfl, ?_⟩))
      go_roundg k1
      case measure => have := HK1.out; omega
      case rel => exact ⟨(wrap64 (x5_1 + 1)), (by first | rfl | (simp; done) | (simp [*]; done) | (simp; generalize ByteArray.toList _ = l_; cases l_ <;> rfl)), H', ⟨by have := HK1.out; omega⟩, by repeat (first | exact Drawn0.refl _ | apply Drawn0.step)⟩
    ·
     rw [if_neg c4] at H
     exact absurd H (by simp)
   ·
    rw [if_neg c3] at H
    have c3b0 : decide (x5_1 < (l0.length : Int)) = false := decide_eq_false c3
    clear c3
    obtain rfl := Option.some.inj H
    go_wp2
    go_ret
    exact ⟨by first | rfl | (simp; done) | (simp [*]; done), by repeat (first | exact Drawn0.refl _ | apply Drawn0.step)⟩

/-! ### shuttlecockref04_Fits: function 38 -/
def shuttlecockref04_Fits.f (a0 : Int) : Option (Bool) := if a0 ≥ 0 then (some (decide (a0 < 4611686018427387904))) else (some false)
set_option maxHeartbeats 8000000 in
set_option maxRecDepth 100000 in
theorem shuttlecockref04_Fits.calls (a0 : Int) (r : Bool) (w : World) (h : shuttlecockref04_Fits.f a0 = some r) :
  Calls Try.prog 38 #[.int .i64 a0] w fun e w' => e = .returned (.bool r) ∧ Drawn0 w w' := by
 have H : (if a0 ≥ 0 then (some (decide (a0 < 4611686018427387904))) else (some false)) = some r := h
 clear h
 by_cases c2 : a0 ≥ 0
 ·
  rw [if_pos c2] at H
  have c2b0 : decide (0 ≤ a0) = true := decide_eq_true c2
  clear c2
  obtain rfl := Option.some.inj H
  go_enter Try.func38, Try.ntmps38
  go_wp2
  go_ret
  exact ⟨by first | rfl | (simp; done) | (simp [*]; done), by repeat (first | exact Drawn0.refl _ | apply Drawn0.step)⟩
 ·
  rw [if_neg c2] at H
  have c2b0 : decide (0 ≤ a0) = false := decide_eq_false c2
  clear c2
  obtain rfl := Option.some.inj H
  go_enter Try.func38, Try.ntmps38
  go_wp2
  go_ret
  exact ⟨by first | rfl | (simp; done) | (simp [*]; done), by repeat (first | exact Drawn0.refl _ | apply Drawn0.step)⟩

end Go.Proofs.Ytlmmlmmbnfcogaa.Q
