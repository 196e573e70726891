-- printed by a program of this session (NOTES: hprint); not the kit's print
-- minified
-- halved
import Derived.Test.YthfdhoegboeaeaaAl
import Derived.Test.YthfdhoegboeaeaaQx0
namespace Go.Proofs.Ythfdhoegboeaeaa.Q
open Go.RowKit Go.Proofs.YthfdhoegboeaeaaW.PrintWords Go.Proofs.YthfdhoegboeaeaaW.PrintLast Go.Proofs.YthfdhoegboeaeaaW.PrintMore
attribute [local go_sem] max2_int min2_int max_two min_two max_three min_three max_four min_four   -- for this text's walks alone
set_option linter.unusedVariables false
set_option linter.unusedSimpArgs false

/-! ### shuttlecockref08_Holds: function 17 -/
def shuttlecockref08_Holds.l0 : Nat → List (S46) → Int → Int → Int → Option (Int)
 | 0, _, _, _, _ => none
 | k + 1, x0, x1, x5, x6 => if x6 < (x0.length : Int) then (if 0 ≤ x6 then (if ((rd_T46 x0 x6).f0) = x1 then (shuttlecockref08_Holds.l0 k x0 x1 (wrap64 (x5 + 1)) (wrap64 (x6 + 1))) else (shuttlecockref08_Holds.l0 k x0 x1 x5 (wrap64 (x6 + 1)))) else (none)) else (some x5)
def shuttlecockref08_Holds.f (k : Nat) (l0 : List (S46)) (a1 : Int) : Option (Int) := shuttlecockref08_Holds.l0 k l0 a1 0 0
theorem shuttlecockref08_Holds.mono_l : ∀ k, (∀ y0 y1 y2 y3, LeO (shuttlecockref08_Holds.l0 k y0 y1 y2 y3) (shuttlecockref08_Holds.l0 (k + 1) y0 y1 y2 y3))
 | 0 => fun _ _ _ _ r h => by simp [shuttlecockref08_Holds.l0] at h
 | k + 1 => by
  have ih0 := shuttlecockref08_Holds.mono_l k
  ·
   intro y0 y1 y2 y3
   unfold shuttlecockref08_Holds.l0
   repeat' first
   | (with_reducible exact ih0 _ _ _ _)
   | (with_reducible exact LeO.refl _)
   | (with_reducible exact LeO.none _)
   | (with_reducible refine LeO.ite ?_ ?_)
   | (with_reducible refine LeO.bind ?_ (fun _ => ?_))
   | exact ih0 _ _ _ _
   | exact LeO.none _
   | refine LeO.ite ?_ ?_
   | refine LeO.bind ?_ (fun _ => ?_)
theorem shuttlecockref08_Holds.mono : ∀ a0 a1 k, LeO (shuttlecockref08_Holds.f k a0 a1) (shuttlecockref08_Holds.f (k + 1) a0 a1) := by
 intro a0 a1 k
 have ih0 := shuttlecockref08_Holds.mono_l k
 unfold shuttlecockref08_Holds.f
 repeat' first
   | (with_reducible exact ih0 _ _ _ _)
   | (with_reducible exact LeO.refl _)
   | (with_reducible exact LeO.none _)
   | (with_reducible refine LeO.ite ?_ ?_)
   | (with_reducible refine LeO.bind ?_ (fun _ => ?_))
   | exact ih0 _ _ _ _
   | exact LeO.none _
   | refine LeO.ite ?_ ?_
   | refine LeO.bind ?_ (fun _ => ?_)
set_option maxHeartbeats 8000000 in
set_option maxRecDepth 100000 in
theorem shuttlecockref08_Holds.calls (k : Nat) (A0 : Option Addr) (c0 : Nat) (l0 : List (S46)) (a1 : Int) (r : Int) (w : World) (hr0 : Kd.C k46 w A0 l0.length l0) (hc0 : l0.length ≤ c0) (h : shuttlecockref08_Holds.f k l0 a1 = some r) :
  Calls Try.prog 17 #[.slice A0 l0.length c0, .int .i64 a1] w fun e w' => e = .returned (.int .i64 r) ∧ Drawn0 w w' := by
 have HR0 := Am hr0
 have HC0 := Am hc0
 clear hr0 hc0
 have H : (shuttlecockref08_Holds.l0 k l0 a1 0 0) = some r := h
 clear h
 have H' := Am H
 clear H
 go_enter Try.func17, Try.ntmps17
 go_wp2
 go_loopg [5, 6] k (fun kq v5 v6 w' => ∃ (x5_1 : Int) (x6_1 : Int), v5 = .int .i64 x5_1 ∧ v6 = .int .i64 x6_1 ∧ Aside0 (shuttlecockref08_Holds.l0 kq l0 a1 x5_1 x6_1 = some r) ∧ Aside0 (kq ≤ k) ∧ Drawn0 w w')
 case atStart => exact ⟨(0), (0), (by first | rfl | (simp; done) | (simp [*]; done)), (by first | rfl | (simp; done) | (simp [*]; done)), H', ⟨Nat.le_refl _⟩, by repeat (first | exact Drawn0.refl _ | apply Drawn0.step)⟩
 case round =>
  clear H'
  try clear c1
  try clear p2
  obtain ⟨x5_1, x6_1, rfl, rfl, HA, HK1, ⟨m1, rfl⟩⟩ := hrel
  cases gk with
  | zero => exact absurd HA.out (by simp [shuttlecockref08_Holds.l0])
  | succ k1 =>
   have H := HA.out
   clear HA
   simp only [shuttlecockref08_Holds.l0] at H
   by_cases c3 : x6_1 < (l0.length : Int)
   ·
    rw [if_pos c3] at H
    have c3b0 : decide (x6_1 < (l0.length : Int)) = true := decide_eq_true c3
    clear c3
    by_cases c4 : 0 ≤ x6_1
    ·
     rw [if_pos c4] at H
     have c4b0 : decide (0 ≤ x6_1) = true := decide_eq_true c4
     clear c4
     by_cases c5 : ((rd_T46 l0 x6_1).f0) = a1
     ·
      rw [if_pos c5] at H
      have c5b0 : (((rd_T46 l0 x6_1).f0) == a1) = true := beq_iff_eq.mpr c5
      have c5b1 : (((rd_T46 l0 x6_1).f0) != a1) = false := bne_eq_false_iff_eq.mpr c5
      clear c5
      have H' := Am H
      clear H
      have p266 : 0 ≤ (x6_1 : Int) := of_decide_eq_true (by first | (with_reducible assumption) | assumption)
      have q266 : x6_1 < (l0.length : Int) := of_decide_eq_true (by first | (with_reducible assumption) | assumption)
      obtain ⟨ad266, e266, hx266_0, hx266_1⟩ := at_T46 HR0.out x6_1 p266 q266
      cases e266
      replace p266 := eq_true p266
      replace q266 := eq_true q266
      go_wp2
      go_roundg k1
      case measure => have := HK1.out; omega
      case rel => exact ⟨(wrap64 (x5_1 + 1)), (wrap64 (x6_1 + 1)), (by first | rfl | (simp; done) | (simp [*]; done)), (by first | rfl | (simp; done) | (simp [*]; done)), H', ⟨by have := HK1.out; omega⟩, by repeat (first | exact Drawn0.refl _ | apply Drawn0.step)⟩
     ·
      rw [if_neg c5] at H
      have c5b0 : (((rd_T46 l0 x6_1).f0) == a1) = false := beq_eq_false_iff_ne.mpr c5
      have c5b1 : (((rd_T46 l0 x6_1).f0) != a1) = true := bne_iff_ne.mpr c5
      have H' := Am H
      clear H
      have p266 : 0 ≤ (x6_1 : Int) := of_decide_eq_true (by first | (with_reducible assumption) | assumption)
      have q266 : x6_1 < (l0.length : Int) := of_decide_eq_true (by first | (with_reducible assumption) | assumption)
      obtain ⟨ad266, e266, hx266_0, hx266_1⟩ := at_T46 HR0.out x6_1 p266 q266
      cases e266
      replace p266 := eq_true p266
      replace q266 := eq_true q266
      go_wp2
      go_roundg k1
      case measure => have := HK1.out; omega
      case rel => exact ⟨(x5_1), (wrap64 (x6_1 + 1)), (by first | rfl | (simp; done) | (simp [*]; done)), (by first | rfl | (simp; done) | (simp [*]; done)), H', ⟨by have := HK1.out; omega⟩, by repeat (first | exact Drawn0.refl _ | apply Drawn0.step)⟩
    ·
     rw [if_neg c4] at H
     exact absurd H (by simp)
   ·
    rw [if_neg c3] at H
    have c3b0 : decide (x6_1 < (l0.length : Int)) = false := decide_eq_false c3
    clear c3
    obtain rfl := Option.some.inj H
    go_wp2
    go_ret
    exact ⟨by first | rfl | (rw [Option.some.inj (A24.out.symm.trans A30.out)]; first | done | rfl) | (simp; done) | (simp [*]; done), by repeat (first | exact Drawn0.refl _ | apply Drawn0.step)⟩

/-! ### shuttlecockref04_Fits: function 26 -/
def shuttlecockref04_Fits.f (a0 : Int) : Option (Bool) := if a0 ≥ 0 then (some (decide (a0 < 4611686018427387904))) else (some false)
set_option maxHeartbeats 8000000 in
set_option maxRecDepth 100000 in
theorem shuttlecockref04_Fits.calls (a0 : Int) (r : Bool) (w : World) (h : shuttlecockref04_Fits.f a0 = some r) :
  Calls Try.prog 26 #[.int .i64 a0] w fun e w' => e = .returned (.bool r) ∧ Drawn0 w w' := by
 have H : (if a0 ≥ 0 then (some (decide (a0 < 4611686018427387904))) else (some false)) = some r := h
 clear h
 by_cases c2 : a0 ≥ 0
 ·
  rw [if_pos c2] at H
  have c2b0 : decide (0 ≤ a0) = true := decide_eq_true c2
  clear c2
  obtain rfl := Option.some.inj H
  go_enter Try.func26, Try.ntmps26
  go_wp2
  go_ret
  exact ⟨by first | rfl | (rw [Option.some.inj (A24.out.symm.trans A30.out)]; first | done | rfl) | (simp; done) | (simp [*]; done), by repeat (first | exact Drawn0.refl _ | apply Drawn0.step)⟩
 ·
  rw [if_neg c2] at H
  have c2b0 : decide (0 ≤ a0) = false := decide_eq_false c2
  clear c2
  obtain rfl := Option.some.inj H
  go_enter Try.func26, Try.ntmps26
  go_wp2
  go_ret
  exact ⟨by first | rfl | (rw [Option.some.inj (A24.out.symm.trans A30.out)]; first | done | rfl) | (simp; done) | (simp [*]; done), by repeat (first | exact Drawn0.refl _ | apply Drawn0.step)⟩

/-! ### shuttlecockref08_has: function 39 -/
def shuttlecockref08_has.l0 : Nat → List (S36) → Int → Int → Int → Option (Int)
 | 0, _, _, _, _ => none
 | k + 1, x0, x1, x5, x6 => if x6 < (x0.length : Int) then (if 0 ≤ x6 then (if ((rd_T36 x0 x6).f2) = x1 then (shuttlecockref08_has.l0 k x0 x1 (wrap64 (x5 + 1)) (wrap64 (x6 + 1))) else (shuttlecockref08_has.l0 k x0 x1 x5 (wrap64 (x6 + 1)))) else (none)) else (some x5)
def shuttlecockref08_has.f (k : Nat) (l0 : List (S36)) (a1 : Int) : Option (Int) := shuttlecockref08_has.l0 k l0 a1 0 0
theorem shuttlecockref08_has.mono_l : ∀ k, (∀ y0 y1 y2 y3, LeO (shuttlecockref08_has.l0 k y0 y1 y2 y3) (shuttlecockref08_has.l0 (k + 1) y0 y1 y2 y3))
 | 0 => fun _ _ _ _ r h => by simp [shuttlecockref08_has.l0] at h
 | k + 1 => by
  have ih0 := shuttlecockref08_has.mono_l k
  ·
   intro y0 y1 y2 y3
   unfold shuttlecockref08_has.l0
   repeat' first
   | (with_reducible exact ih0 _ _ _ _)
   | (with_reducible exact LeO.refl _)
   | (with_reducible exact LeO.none _)
   | (with_reducible refine LeO.ite ?_ ?_)
   | (with_reducible refine LeO.bind ?_ (fun _ => ?_))
   | exact ih0 _ _ _ _
   | exact LeO.none _
   | refine LeO.ite ?_ ?_
   | refine LeO.bind ?_ (fun _ => ?_)
theorem shuttlecockref08_has.mono : ∀ a0 a1 k, LeO (shuttlecockref08_has.f k a0 a1) (shuttlecockref08_has.f (k + 1) a0 a1) := by
 intro a0 a1 k
 have ih0 := shuttlecockref08_has.mono_l k
 unfold shuttlecockref08_has.f
 repeat' first
   | (with_reducible exact ih0 _ _ _ _)
   | (with_reducible exact LeO.refl _)
   | (with_reducible exact LeO.none _)
   | (with_reducible refine LeO.ite ?_ ?_)
   | (with_reducible refine LeO.bind ?_ (fun _ => ?_))
   | exact ih0 _ _ _ _
   | exact LeO.none _
   | refine LeO.ite ?_ ?_
   | refine LeO.bind ?_ (fun _ => ?_)
set_option maxHeartbeats 8000000 in
set_option maxRecDepth 100000 in
theorem shuttlecockref08_has.calls (k : Nat) (A0 : Option Addr) (c0 : Nat) (l0 : List (S36)) (a1 : Int) (r : Int) (w : World) (hr0 : Kd.C k36 w A0 l0.length l0) (hc0 : l0.length ≤ c0) (h : shuttlecockref08_has.f k l0 a1 = some r) :
  Calls Try.prog 39 #[.slice A0 l0.length c0, .int .i64 a1] w fun e w' => e = .returned (.int .i64 r) ∧ Drawn0 w w' := by
 have HR0 := Am hr0
 have HC0 := Am hc0
 clear hr0 hc0
 have H : (shuttlecockref08_has.l0 k l0 a1 0 0) = some r := h
 clear h
 have H' := Am H
 clear H
 go_enter Try.func39, Try.ntmps39
 go_wp2
 go_loopg [5, 6] k (fun kq v5 v6 w' => ∃ (x5_1 : Int) (x6_1 : Int), v5 = .int .i64 x5_1 ∧ v6 = .int .i64 x6_1 ∧ Aside0 (shuttlecockref08_has.l0 kq l0 a1 x5_1 x6_1 = some r) ∧ Aside0 (kq ≤ k) ∧ Drawn0 w w')
 case atStart => exact ⟨(0), (0), (by first | rfl | (simp; done) | (simp [*]; done)), (by first | rfl | (simp; done) | (simp [*]; done)), H', ⟨Nat.le_refl _⟩, by repeat (first | exact Drawn0.refl _ | apply Drawn0.step)⟩
 case round =>
  clear H'
  try clear p2
  obtain ⟨x5_1, x6_1, rfl, rfl, HA, HK1, ⟨m1, rfl⟩⟩ := hrel
  cases gk with
  | zero => exact absurd HA.out (by simp [shuttlecockref08_has.l0])
  | succ k1 =>
   have H := HA.out
   clear HA
   simp only [shuttlecockref08_has.l0] at H
   by_cases c3 : x6_1 < (l0.length : Int)
   ·
    rw [if_pos c3] at H
    have c3b0 : decide (x6_1 < (l0.length : Int)) = true := decide_eq_true c3
    clear c3
    by_cases c4 : 0 ≤ x6_1
    ·
     rw [if_pos c4] at H
     have c4b0 : decide (0 ≤ x6_1) = true := decide_eq_true c4
     clear c4
     by_cases c5 : ((rd_T36 l0 x6_1).f2) = a1
     ·
      rw [if_pos c5] at H
      have c5b0 : (((rd_T36 l0 x6_1).f2) == a1) = true := beq_iff_eq.mpr c5
      have c5b1 : (((rd_T36 l0 x6_1).f2) != a1) = false := bne_eq_false_iff_eq.mpr c5
      clear c5
      have H' := Am H
      clear H
      have p267 : 0 ≤ (x6_1 : Int) := of_decide_eq_true (by first | (with_reducible assumption) | assumption)
      have q267 : x6_1 < (l0.length : Int) := of_decide_eq_true (by first | (with_reducible assumption) | assumption)
      obtain ⟨ad267, e267, hx267_0, hx267_1, hx267_2, hx267_3⟩ := at_T36 HR0.out x6_1 p267 q267
      cases e267
      replace p267 := eq_true p267
      replace q267 := eq_true q267
      go_wp2
      go_roundg k1
      case measure => have := HK1.out; omega
      case rel => exact ⟨(wrap64 (x5_1 + 1)), (wrap64 (x6_1 + 1)), (by first | rfl | (simp; done) | (simp [*]; done)), (by first | rfl | (simp; done) | (simp [*]; done)), H', ⟨by have := HK1.out; omega⟩, by repeat (first | exact Drawn0.refl _ | apply Drawn0.step)⟩
     ·
      rw [if_neg c5] at H
      have c5b0 : (((rd_T36 l0 x6_1).f2) == a1) = false := beq_eq_false_iff_ne.mpr c5
      have c5b1 : (((rd_T36 l0 x6_1).f2) != a1) = true := bne_iff_ne.mpr c5
      have H' := Am H
      clear H
      have p267 : 0 ≤ (x6_1 : Int) := of_decide_eq_true (by first | (with_reducible assumption) | assumption)
      have q267 : x6_1 < (l0.length : Int) := of_decide_eq_true (by first | (with_reducible assumption) | assumption)
      obtain ⟨ad267, e267, hx267_0, hx267_1, hx267_2, hx267_3⟩ := at_T36 HR0.out x6_1 p267 q267
      cases e267
      replace p267 := eq_true p267
      replace q267 := eq_true q267
      go_wp2
      go_roundg k1
      case measure => have := HK1.out; omega
      case rel => exact ⟨(x5_1), (wrap64 (x6_1 + 1)), (by first | rfl | (simp; done) | (simp [*]; done)), (by first | rfl | (simp; done) | (simp [*]; done)), H', ⟨by have := HK1.out; omega⟩, by repeat (first | exact Drawn0.refl _ | apply Drawn0.step)⟩
    ·
     rw [if_neg c4] at H
     exact absurd H (by simp)
   ·
    rw [if_neg c3] at H
    have c3b0 : decide (x6_1 < (l0.length : Int)) = false := decide_eq_false c3
    clear c3
    obtain rfl := Option.some.inj H
    go_wp2
    go_ret
    exact ⟨by first | rfl | (rw [Option.some.inj (A24.out.symm.trans A30.out)]; first | done | rfl) | (simp; done) | (simp [*]; done), by repeat (first | exact Drawn0.refl _ | apply Drawn0.step)⟩

/-! ### shuttlecockref08_right: function 27 -/
mutual
def shuttlecockref08_right.j0 : Nat → Bool → Int → List (S46) → List (S36) → Int → Int → Int → Int → Option (Bool)
 | 0, _, _, _, _, _, _, _, _ => none
 | k + 1, x12, x269000, x269001, x269002, x270000, x270001, x270002, x270003 => if x12 = true then (some (x270002 == 0)) else (if x270002 = 0 then (shuttlecockref08_right.j1 k true x269000 x269001 x269002 x270000 x270001 x270002 x270003) else ((shuttlecockref08_has.f k x269002 x270002).bind fun t270 => (shuttlecockref08_right.j1 k (t270 != 1) x269000 x269001 x269002 x270000 x270001 x270002 x270003)))
def shuttlecockref08_right.j1 : Nat → Bool → Int → List (S46) → List (S36) → Int → Int → Int → Int → Option (Bool)
 | 0, _, _, _, _, _, _, _, _ => none
 | k + 1, x26, x269000, x269001, x269002, x270000, x270001, x270002, x270003 => if x26 = true then (some false) else (if x270001 = 2 then ((shuttlecockref08_Holds.f k x269001 x270002).bind fun t271 => (if t271 = 1 then (some true) else (if x270001 = 4 then ((shuttlecockref08_Holds.f k x269001 x270002).bind fun t272 => (some (t272 == 0))) else (some false)))) else (if x270001 = 4 then ((shuttlecockref08_Holds.f k x269001 x270002).bind fun t273 => (some (t273 == 0))) else (some false)))
end
def shuttlecockref08_right.f (k : Nat) (a0_0 : Int) (l0_1 : List (S46)) (l0_2 : List (S36)) (a1_0 : Int) (a1_1 : Int) (a1_2 : Int) (a1_3 : Int) : Option (Bool) := if a1_1 = 1 then (shuttlecockref08_right.j0 k true a0_0 l0_1 l0_2 a1_0 a1_1 a1_2 a1_3) else (shuttlecockref08_right.j0 k (a1_1 == 3) a0_0 l0_1 l0_2 a1_0 a1_1 a1_2 a1_3)
theorem shuttlecockref08_right.mono_l : ∀ k, (∀ y0 y1 y2 y3 y4 y5 y6 y7, LeO (shuttlecockref08_right.j0 k y0 y1 y2 y3 y4 y5 y6 y7) (shuttlecockref08_right.j0 (k + 1) y0 y1 y2 y3 y4 y5 y6 y7)) ∧ (∀ y0 y1 y2 y3 y4 y5 y6 y7, LeO (shuttlecockref08_right.j1 k y0 y1 y2 y3 y4 y5 y6 y7) (shuttlecockref08_right.j1 (k + 1) y0 y1 y2 y3 y4 y5 y6 y7))
 | 0 => ⟨fun _ _ _ _ _ _ _ _ r h => by simp [shuttlecockref08_right.j0] at h, fun _ _ _ _ _ _ _ _ r h => by simp [shuttlecockref08_right.j1] at h⟩
 | k + 1 => by
  obtain ⟨ih0, ih1⟩ := shuttlecockref08_right.mono_l k
  refine ⟨?_, ?_⟩
  ·
   intro y0 y1 y2 y3 y4 y5 y6 y7
   unfold shuttlecockref08_right.j0
   repeat' first
   | (with_reducible exact ih0 _ _ _ _ _ _ _ _)
   | (with_reducible exact ih1 _ _ _ _ _ _ _ _)
   | (with_reducible exact shuttlecockref08_Holds.mono _ _ _)
   | (with_reducible exact shuttlecockref08_has.mono _ _ _)
   | (with_reducible exact LeO.refl _)
   | (with_reducible exact LeO.none _)
   | (with_reducible refine LeO.ite ?_ ?_)
   | (with_reducible refine LeO.bind ?_ (fun _ => ?_))
   | exact ih0 _ _ _ _ _ _ _ _
   | exact ih1 _ _ _ _ _ _ _ _
   | exact shuttlecockref08_Holds.mono _ _ _
   | exact shuttlecockref08_has.mono _ _ _
   | exact LeO.none _
   | refine LeO.ite ?_ ?_
   | refine LeO.bind ?_ (fun _ => ?_)
  ·
   intro y0 y1 y2 y3 y4 y5 y6 y7
   unfold shuttlecockref08_right.j1
   repeat' first
   | (with_reducible exact ih0 _ _ _ _ _ _ _ _)
   | (with_reducible exact ih1 _ _ _ _ _ _ _ _)
   | (with_reducible exact shuttlecockref08_Holds.mono _ _ _)
   | (with_reducible exact shuttlecockref08_has.mono _ _ _)
   | (with_reducible exact LeO.refl _)
   | (with_reducible exact LeO.none _)
   | (with_reducible refine LeO.ite ?_ ?_)
   | (with_reducible refine LeO.bind ?_ (fun _ => ?_))
   | exact ih0 _ _ _ _ _ _ _ _
   | exact ih1 _ _ _ _ _ _ _ _
   | exact shuttlecockref08_Holds.mono _ _ _
   | exact shuttlecockref08_has.mono _ _ _
   | exact LeO.none _
   | refine LeO.ite ?_ ?_
   | refine LeO.bind ?_ (fun _ => ?_)
theorem shuttlecockref08_right.mono : ∀ a0 a1 a2 a3 a4 a5 a6 k, LeO (shuttlecockref08_right.f k a0 a1 a2 a3 a4 a5 a6) (shuttlecockref08_right.f (k + 1) a0 a1 a2 a3 a4 a5 a6) := by
 intro a0 a1 a2 a3 a4 a5 a6 k
 obtain ⟨ih0, ih1⟩ := shuttlecockref08_right.mono_l k
 unfold shuttlecockref08_right.f
 repeat' first
   | (with_reducible exact ih0 _ _ _ _ _ _ _ _)
   | (with_reducible exact ih1 _ _ _ _ _ _ _ _)
   | (with_reducible exact shuttlecockref08_Holds.mono _ _ _)
   | (with_reducible exact shuttlecockref08_has.mono _ _ _)
   | (with_reducible exact LeO.refl _)
   | (with_reducible exact LeO.none _)
   | (with_reducible refine LeO.ite ?_ ?_)
   | (with_reducible refine LeO.bind ?_ (fun _ => ?_))
   | exact ih0 _ _ _ _ _ _ _ _
   | exact ih1 _ _ _ _ _ _ _ _
   | exact shuttlecockref08_Holds.mono _ _ _
   | exact shuttlecockref08_has.mono _ _ _
   | exact LeO.none _
   | refine LeO.ite ?_ ?_
   | refine LeO.bind ?_ (fun _ => ?_)
set_option maxHeartbeats 8000000 in
set_option maxRecDepth 100000 in
theorem shuttlecockref08_right.calls (k : Nat) (a0_0 : Int) (A0_1 : Option Addr) (c0_1 : Nat) (l0_1 : List (S46)) (A0_2 : Option Addr) (c0_2 : Nat) (l0_2 : List (S36)) (a1_0 : Int) (a1_1 : Int) (a1_2 : Int) (a1_3 : Int) (r : Bool) (w : World) (hr0_1 : Kd.C k46 w A0_1 l0_1.length l0_1) (hc0_1 : l0_1.length ≤ c0_1) (hr0_2 : Kd.C k36 w A0_2 l0_2.length l0_2) (hc0_2 : l0_2.length ≤ c0_2) (h : shuttlecockref08_right.f k a0_0 l0_1 l0_2 a1_0 a1_1 a1_2 a1_3 = some r) :
  Calls Try.prog 27 #[.agg #[.int .i64 a0_0, .slice A0_1 l0_1.length c0_1, .slice A0_2 l0_2.length c0_2], .agg #[.int .i64 a1_0, .int .i64 a1_1, .int .i64 a1_2, .int .i64 a1_3]] w fun e w' => e = .returned (.bool r) ∧ Below w.heap.size w w' := by
 have hu25 := Try.underlying25
 have hu36 := Try.underlying36
 have HR0_1 := Am hr0_1
 have HC0_1 := Am hc0_1
 clear hr0_1 hc0_1
 have HR0_2 := Am hr0_2
 have HC0_2 := Am hc0_2
 clear hr0_2 hc0_2
 have HB := Am (Below.refl w.heap.size w)
 have H : (if a1_1 = 1 then (shuttlecockref08_right.j0 k true a0_0 l0_1 l0_2 a1_0 a1_1 a1_2 a1_3) else (shuttlecockref08_right.j0 k (a1_1 == 3) a0_0 l0_1 l0_2 a1_0 a1_1 a1_2 a1_3)) = some r := h
 clear h
 have HC3 := Am H
 clear H
 go_enter Try.func27, Try.ntmps27
 go_upto_region 1 with (first | ((with_reducible refine gate_dst (N := 2) rfl ?_); refine box_event ?hg (N := 2) ?hd (cs := #[.int .i64 a0_0, .slice A0_1 l0_1.length c0_1, .slice A0_2 l0_2.length c0_2]) (t := 25) ?hr ?_; (case hd => rfl); (case hg => rfl); (case hr => first | (go_simp; done) | (go_simp; rfl)); intro gb268 hg w4 hbox hb; have n0_ := Am (below_step (by repeat (first | (with_reducible first | exact HB.out | apply bl | apply pN | apply b1) | exact HB.out | exact HBo.out)) hb); have n1_ := Am (hbox); have n2_ := Am ((by rw [hg]; exact (below_size (by repeat (first | (with_reducible first | exact HB.out | apply bl | apply pN | apply b1) | exact HB.out | exact HBo.out))) : w.heap.size ≤ gb268)); have n3_ := Am ((by rw [hg]; exact (below_size (by repeat (first | (with_reducible first | exact HB.out | apply bl | apply pN | apply b1) | exact HB.out | exact HBo.out))) : w.heap.size ≤ gb268)); clear HB; have HB := n0_; have BK268 := n1_; have GW268 := n2_; have GE268 := n3_; clear n0_ n1_ n2_ n3_; clear hb hbox hg) | ((with_reducible refine gate_dst (N := 3) rfl ?_); refine box_event ?hg (N := 3) ?hd (cs := #[.int .i64 a1_0, .int .i64 a1_1, .int .i64 a1_2, .int .i64 a1_3]) (t := 36) ?hr ?_; (case hd => rfl); (case hg => rfl); (case hr => first | (go_simp; done) | (go_simp; rfl)); intro gb269 hg w5 hbox hb; have n0_ := Am (blk_below (g := gb268) (o := .cells #[.int .i64 a0_0, .slice A0_1 l0_1.length c0_1, .slice A0_2 l0_2.length c0_2] 25 (0, 0)) (by (with_reducible repeat (first | refine bn ?_ _ | refine bd ?_ | refine ba ?_ _)); exact BK268.out) hb); have n1_ := Am (below_step (by repeat (first | (with_reducible first | exact HB.out | apply bl | apply pN | apply b1 | refine bs ?_ GE268.out) | exact HB.out | exact HBo.out)) hb); have n2_ := Am (hbox); have n3_ := Am ((by rw [hg]; exact (below_size (by repeat (first | (with_reducible first | exact HB.out | apply bl | apply pN | apply b1 | refine bs ?_ GE268.out) | exact HB.out | exact HBo.out))) : w.heap.size ≤ gb269)); have n4_ := Am ((by rw [hg]; exact (below_size (by repeat (first | (with_reducible first | exact HB.out | apply bl | apply pN | apply b1 | refine bs ?_ GE268.out) | exact HB.out | exact HBo.out))) : w.heap.size ≤ gb269)); have n5_ := Am ((by rw [hg]; exact Nat.ne_of_lt (blk_lt (g := gb268) (o := .cells #[.int .i64 a0_0, .slice A0_1 l0_1.length c0_1, .slice A0_2 l0_2.length c0_2] 25 (0, 0)) (by (with_reducible repeat (first | refine bn ?_ _ | refine bd ?_ | refine ba ?_ _)); exact BK268.out)) : gb268 ≠ gb269)); have n6_ := Am ((by rw [hg]; exact Nat.ne_of_gt (blk_lt (g := gb268) (o := .cells #[.int .i64 a0_0, .slice A0_1 l0_1.length c0_1, .slice A0_2 l0_2.length c0_2] 25 (0, 0)) (by (with_reducible repeat (first | refine bn ?_ _ | refine bd ?_ | refine ba ?_ _)); exact BK268.out)) : gb269 ≠ gb268)); clear BK268; clear HB; have BK268 := n0_; have HB := n1_; have BK269 := n2_; have GW269 := n3_; have GE269 := n4_; have NB268_269 := n5_; have NB269_268 := n6_; clear n0_ n1_ n2_ n3_ n4_ n5_ n6_; clear hb hbox hg))
 (try simp only [Act.put, sI, sZ, sS])
 go_cut [12] (fun v12 wc => ∃ (kq : Nat) (x12_2 : Bool), v12 = .bool x12_2 ∧ Aside0 (shuttlecockref08_right.j0 kq x12_2 a0_0 l0_1 l0_2 a1_0 a1_1 a1_2 a1_3 = some r) ∧ Aside0 (kq ≤ k) ∧ Aside0 (wc.heap[gb268]? = some (.cells #[.int .i64 a0_0, (.slice A0_1 l0_1.length c0_1), (.slice A0_2 l0_2.length c0_2)] 25 (0, 0))) ∧ Aside0 (wc.heap[gb269]? = some (.cells #[.int .i64 a1_0, .int .i64 a1_1, .int .i64 a1_2, .int .i64 a1_3] 36 (0, 0))) ∧ Aside0 (Below w.heap.size w wc))
 case first =>
  have H := HC3.out
  clear HC3
  by_cases c6 : a1_1 = 1
  ·
   rw [if_pos c6] at H
   have c6b0 : (a1_1 == 1) = true := beq_iff_eq.mpr c6
   have c6b1 : (a1_1 != 1) = false := bne_eq_false_iff_eq.mpr c6
   clear c6
   (first | rw [c6b0] | (simp only [i64_w, i32_w]; rw [c6b0]) | skip)
   have H' := Am H
   clear H
   have hnb7 := NB269_268.out
   have hnc7 := NB268_269.out
   have hcz8_0 : w5.cell? ⟨gb269, 0, none⟩ = some (.int .i64 a1_0) := (bc BK269.out 0).trans rfl
   have hcz8_1 : w5.cell? ⟨gb269, 1, none⟩ = some (.int .i64 a1_1) := (bc BK269.out 1).trans rfl
   have hcz8_2 : w5.cell? ⟨gb269, 2, none⟩ = some (.int .i64 a1_2) := (bc BK269.out 2).trans rfl
   have hcz8_3 : w5.cell? ⟨gb269, 3, none⟩ = some (.int .i64 a1_3) := (bc BK269.out 3).trans rfl
   have hfz8_0 := bf BK269.out 0
   have hfz8_1 := bf BK269.out 1
   have hfz8_2 := bf BK269.out 2
   have hfz8_3 := bf BK269.out 3
   go_wp2
   go_meet
   case rel => exact ⟨_, (true), (by first | rfl | (simp; done) | (simp [*]; done)), H', ⟨by first | omega | exact Nat.le_refl _⟩, ⟨by (with_reducible repeat (first | refine bn ?_ _ | refine bd ?_ | refine ba ?_ _)); exact BK268.out⟩, ⟨by (with_reducible repeat (first | refine bn ?_ _ | refine bd ?_ | refine ba ?_ _)); exact BK269.out⟩, ⟨by repeat (first | (with_reducible first | exact HB.out | apply bl | apply pN | apply b1 | refine bs ?_ GE268.out | refine bs ?_ GE269.out) | exact HB.out | exact HBo.out)⟩⟩
  ·
   rw [if_neg c6] at H
   have c6b0 : (a1_1 == 1) = false := beq_eq_false_iff_ne.mpr c6
   have c6b1 : (a1_1 != 1) = true := bne_iff_ne.mpr c6
   (first | rw [c6b0] | (simp only [i64_w, i32_w]; rw [c6b0]) | skip)
   have H' := Am H
   clear H
   have hnb9 := NB269_268.out
   have hnc9 := NB268_269.out
   have hcz10_0 : w5.cell? ⟨gb269, 0, none⟩ = some (.int .i64 a1_0) := (bc BK269.out 0).trans rfl
   have hcz10_1 : w5.cell? ⟨gb269, 1, none⟩ = some (.int .i64 a1_1) := (bc BK269.out 1).trans rfl
   have hcz10_2 : w5.cell? ⟨gb269, 2, none⟩ = some (.int .i64 a1_2) := (bc BK269.out 2).trans rfl
   have hcz10_3 : w5.cell? ⟨gb269, 3, none⟩ = some (.int .i64 a1_3) := (bc BK269.out 3).trans rfl
   have hfz10_0 := bf BK269.out 0
   have hfz10_1 := bf BK269.out 1
   have hfz10_2 := bf BK269.out 2
   have hfz10_3 := bf BK269.out 3
   go_wp2
   go_meet
   case rel => exact ⟨_, ((a1_1 == 3)), (by first | rfl | (simp; done) | (simp [*]; done)), H', ⟨by first | omega | exact Nat.le_refl _⟩, ⟨by (with_reducible repeat (first | refine bn ?_ _ | refine bd ?_ | refine ba ?_ _)); exact BK268.out⟩, ⟨by (with_reducible repeat (first | refine bn ?_ _ | refine bd ?_ | refine ba ?_ _)); exact BK269.out⟩, ⟨by repeat (first | (with_reducible first | exact HB.out | apply bl | apply pN | apply b1 | refine bs ?_ GE268.out | refine bs ?_ GE269.out) | exact HB.out | exact HBo.out)⟩⟩
 case rest =>
  clear HC3
  try clear c2
  try clear p2
  try clear c6
  try clear c6b0
  try clear c6b1
  try clear c7
  try clear c9
  try clear hcz10_0
  try clear hcz10_1
  try clear hcz10_2
  try clear hcz10_3
  try clear hcz8_0
  try clear hcz8_1
  try clear hcz8_2
  try clear hcz8_3
  try clear hfz10_0
  try clear hfz10_1
  try clear hfz10_2
  try clear hfz10_3
  try clear hfz8_0
  try clear hfz8_1
  try clear hfz8_2
  try clear hfz8_3
  obtain ⟨kq, x12_2, rfl, HA, HJ2, BK268, BK269, HB⟩ := hcut
  cases kq with
  | zero => exact absurd HA.out (by simp [shuttlecockref08_right.j0])
  | succ kj2 =>
   have H := HA.out
   clear HA
   simp only [shuttlecockref08_right.j0] at H
   by_cases c11 : x12_2 = true
   ·
    subst c11
    have H1 : (some (a1_2 == 0)) = some r := by rw [if_pos rfl] at H; exact H
    clear H
    have H := H1
    clear H1
    obtain rfl := Option.some.inj H
    have hnb12 := NB269_268.out
    have hnc12 := NB268_269.out
    have hcz13_0 : wc.cell? ⟨gb269, 0, none⟩ = some (.int .i64 a1_0) := (bc BK269.out 0).trans rfl
    have hcz13_1 : wc.cell? ⟨gb269, 1, none⟩ = some (.int .i64 a1_1) := (bc BK269.out 1).trans rfl
    have hcz13_2 : wc.cell? ⟨gb269, 2, none⟩ = some (.int .i64 a1_2) := (bc BK269.out 2).trans rfl
    have hcz13_3 : wc.cell? ⟨gb269, 3, none⟩ = some (.int .i64 a1_3) := (bc BK269.out 3).trans rfl
    have hfz13_0 := bf BK269.out 0
    have hfz13_1 := bf BK269.out 1
    have hfz13_2 := bf BK269.out 2
    have hfz13_3 := bf BK269.out 3
    go_wp2
    go_ret
    exact ⟨by first | rfl | (rw [Option.some.inj (A24.out.symm.trans A30.out)]; first | done | rfl) | (simp [errW_none, errW_some] <;> rfl) | (simp [*, errW_none, errW_some] <;> rfl) | (simp [Aid.ne_nil, Aid.eq_nil, errW_none, errW_some]; done), by repeat (first | (with_reducible first | exact HB.out | apply bl | apply pN | apply b1 | refine bs ?_ GE268.out | refine bs ?_ GE269.out) | exact HB.out | exact HBo.out)⟩
   ·
    replace c11 := Bool.eq_false_iff.mpr c11
    subst c11
    have H1 : (if a1_2 = 0 then (shuttlecockref08_right.j1 kj2 true a0_0 l0_1 l0_2 a1_0 a1_1 a1_2 a1_3) else ((shuttlecockref08_has.f kj2 l0_2 a1_2).bind fun t270 => (shuttlecockref08_right.j1 kj2 (t270 != 1) a0_0 l0_1 l0_2 a1_0 a1_1 a1_2 a1_3))) = some r := by rw [if_neg (show ¬ (false = true) by decide)] at H; exact H
    clear H
    have H := H1
    clear H1
    have HC14 := Am H
    clear H
    go_upto_region 3 with (fail)
    go_cut [26] (fun v26 wc => ∃ (kq : Nat) (x26_13 : Bool), v26 = .bool x26_13 ∧ Aside0 (shuttlecockref08_right.j1 kq x26_13 a0_0 l0_1 l0_2 a1_0 a1_1 a1_2 a1_3 = some r) ∧ Aside0 (kq ≤ kj2) ∧ Aside0 (wc.heap[gb268]? = some (.cells #[.int .i64 a0_0, (.slice A0_1 l0_1.length c0_1), (.slice A0_2 l0_2.length c0_2)] 25 (0, 0))) ∧ Aside0 (wc.heap[gb269]? = some (.cells #[.int .i64 a1_0, .int .i64 a1_1, .int .i64 a1_2, .int .i64 a1_3] 36 (0, 0))) ∧ Aside0 (Below w.heap.size w wc))
    case first =>
     have H := HC14.out
     clear HC14
     by_cases c15 : a1_2 = 0
     ·
      rw [if_pos c15] at H
      have c15b0 : (a1_2 == 0) = true := beq_iff_eq.mpr c15
      have c15b1 : (a1_2 != 0) = false := bne_eq_false_iff_eq.mpr c15
      clear c15
      (first | rw [c15b0] | (simp only [i64_w, i32_w]; rw [c15b0]) | skip)
      have H' := Am H
      clear H
      have hnb16 := NB269_268.out
      have hnc16 := NB268_269.out
      have hcz17_0 : wc.cell? ⟨gb269, 0, none⟩ = some (.int .i64 a1_0) := (bc BK269.out 0).trans rfl
      have hcz17_1 : wc.cell? ⟨gb269, 1, none⟩ = some (.int .i64 a1_1) := (bc BK269.out 1).trans rfl
      have hcz17_2 : wc.cell? ⟨gb269, 2, none⟩ = some (.int .i64 a1_2) := (bc BK269.out 2).trans rfl
      have hcz17_3 : wc.cell? ⟨gb269, 3, none⟩ = some (.int .i64 a1_3) := (bc BK269.out 3).trans rfl
      have hfz17_0 := bf BK269.out 0
      have hfz17_1 := bf BK269.out 1
      have hfz17_2 := bf BK269.out 2
      have hfz17_3 := bf BK269.out 3
      go_wp2
      go_meet
      case rel => exact ⟨_, (true), (by first | rfl | (simp; done) | (simp [*]; done)), H', ⟨by have := HJ2.out; first | omega | exact Nat.le_refl _⟩, ⟨by (with_reducible repeat (first | refine bn ?_ _ | refine bd ?_ | refine ba ?_ _)); exact BK268.out⟩, ⟨by (with_reducible repeat (first | refine bn ?_ _ | refine bd ?_ | refine ba ?_ _)); exact BK269.out⟩, ⟨by repeat (first | (with_reducible first | exact HB.out | apply bl | apply pN | apply b1 | refine bs ?_ GE268.out | refine bs ?_ GE269.out) | exact HB.out | exact HBo.out)⟩⟩
     ·
      rw [if_neg c15] at H
      have c15b0 : (a1_2 == 0) = false := beq_eq_false_iff_ne.mpr c15
      have c15b1 : (a1_2 != 0) = true := bne_iff_ne.mpr c15
      (first | rw [c15b0] | (simp only [i64_w, i32_w]; rw [c15b0]) | skip)
      replace H := ob H
      obtain ⟨t270, A180, H⟩ := H
      replace H : (shuttlecockref08_right.j1 kj2 (t270 != 1) a0_0 l0_1 l0_2 a1_0 a1_1 a1_2 a1_3) = some r := H
      have A18 := Am A180
      clear A180
      have H' := Am H
      clear H
      have hnb19 := NB269_268.out
      have hnc19 := NB268_269.out
      have hcz20_0 : wc.cell? ⟨gb269, 0, none⟩ = some (.int .i64 a1_0) := (bc BK269.out 0).trans rfl
      have hcz20_1 : wc.cell? ⟨gb269, 1, none⟩ = some (.int .i64 a1_1) := (bc BK269.out 1).trans rfl
      have hcz20_2 : wc.cell? ⟨gb269, 2, none⟩ = some (.int .i64 a1_2) := (bc BK269.out 2).trans rfl
      have hcz20_3 : wc.cell? ⟨gb269, 3, none⟩ = some (.int .i64 a1_3) := (bc BK269.out 3).trans rfl
      have hfz20_0 := bf BK269.out 0
      have hfz20_1 := bf BK269.out 1
      have hfz20_2 := bf BK269.out 2
      have hfz20_3 := bf BK269.out 3
      have hcz21_0 : wc.cell? ⟨gb268, 0, none⟩ = some (.int .i64 a0_0) := (bc BK268.out 0).trans rfl
      have hcz21_1 : wc.cell? ⟨gb268, 1, none⟩ = some (.slice A0_1 l0_1.length c0_1) := (bc BK268.out 1).trans rfl
      have hcz21_2 : wc.cell? ⟨gb268, 2, none⟩ = some (.slice A0_2 l0_2.length c0_2) := (bc BK268.out 2).trans rfl
      have hfz21_0 := bf BK268.out 0
      have hfz21_1 := bf BK268.out 1
      have hfz21_2 := bf BK268.out 2
      go_wp2_with (first | (go_at_call 39; (with_reducible refine (shuttlecockref08_has.calls kj2 _ _ l0_2 a1_2 t270 _ ?side1 ?side2 A18.out).mono ?_); (case side1 => repeat (first | exact (Kd.C_below HR0_2.out HB.out) | (with_reducible refine Kd.C_alloc ?_ _) | (with_reducible refine Kd.C_drewN ?_ _) | (with_reducible refine Kd.C_drew ?_))); (case side2 => exact HC0_2.out); rintro e w' ⟨rfl, ⟨nd, rfl⟩⟩))
      go_meet
      case rel => exact ⟨_, ((t270 != 1)), (by first | rfl | (simp; done) | (simp [*]; done)), H', ⟨by have := HJ2.out; first | omega | exact Nat.le_refl _⟩, ⟨by (with_reducible repeat (first | refine bn ?_ _ | refine bd ?_ | refine ba ?_ _)); exact BK268.out⟩, ⟨by (with_reducible repeat (first | refine bn ?_ _ | refine bd ?_ | refine ba ?_ _)); exact BK269.out⟩, ⟨by repeat (first | (with_reducible first | exact HB.out | apply bl | apply pN | apply b1 | refine bs ?_ GE268.out | refine bs ?_ GE269.out) | exact HB.out | exact HBo.out)⟩⟩
    case rest =>
     clear HC14
     try clear c1
     try clear c2
     try clear p2
     try clear c6
     try clear c6b0
     try clear c6b1
     try clear c7
     try clear c9
     try clear c11
     try clear c12
     try clear c15
     try clear c15b0
     try clear c15b1
     try clear c16
     try clear c19
     try clear hcz10_0
     try clear hcz10_1
     try clear hcz10_2
     try clear hcz10_3
     try clear hcz13_0
     try clear hcz13_1
     try clear hcz13_2
     try clear hcz13_3
     try clear hcz17_0
     try clear hcz17_1
     try clear hcz17_2
     try clear hcz17_3
     try clear hcz20_0
     try clear hcz20_1
     try clear hcz20_2
     try clear hcz20_3
     try clear hcz21_0
     try clear hcz21_1
     try clear hcz21_2
     try clear hcz8_0
     try clear hcz8_1
     try clear hcz8_2
     try clear hcz8_3
     try clear hfz10_0
     try clear hfz10_1
     try clear hfz10_2
     try clear hfz10_3
     try clear hfz13_0
     try clear hfz13_1
     try clear hfz13_2
     try clear hfz13_3
     try clear hfz17_0
     try clear hfz17_1
     try clear hfz17_2
     try clear hfz17_3
     try clear hfz20_0
     try clear hfz20_1
     try clear hfz20_2
     try clear hfz20_3
     try clear hfz21_0
     try clear hfz21_1
     try clear hfz21_2
     try clear hfz8_0
     try clear hfz8_1
     try clear hfz8_2
     try clear hfz8_3
     try clear p2
     obtain ⟨kq, x26_13, rfl, HA, HJ13, BK268, BK269, HB⟩ := hcut
     cases kq with
     | zero => exact absurd HA.out (by simp [shuttlecockref08_right.j1])
     | succ kj13 =>
      have H := HA.out
      clear HA
      simp only [shuttlecockref08_right.j1] at H
      by_cases c22 : x26_13 = true
      ·
       subst c22
       have H1 : (some false) = some r := by rw [if_pos rfl] at H; exact H
       clear H
       have H := H1
       clear H1
       obtain rfl := Option.some.inj H
       go_wp2
       go_ret
       exact ⟨by first | rfl | (rw [Option.some.inj (A24.out.symm.trans A30.out)]; first | done | rfl) | (simp [errW_none, errW_some] <;> rfl) | (simp [*, errW_none, errW_some] <;> rfl) | (simp [Aid.ne_nil, Aid.eq_nil, errW_none, errW_some]; done), by repeat (first | (with_reducible first | exact HB.out | apply bl | apply pN | apply b1 | refine bs ?_ GE268.out | refine bs ?_ GE269.out) | exact HB.out | exact HBo.out)⟩
      ·
       replace c22 := Bool.eq_false_iff.mpr c22
       subst c22
       have H1 : (if a1_1 = 2 then ((shuttlecockref08_Holds.f kj13 l0_1 a1_2).bind fun t271 => (if t271 = 1 then (some true) else (if a1_1 = 4 then ((shuttlecockref08_Holds.f kj13 l0_1 a1_2).bind fun t272 => (some (t272 == 0))) else (some false)))) else (if a1_1 = 4 then ((shuttlecockref08_Holds.f kj13 l0_1 a1_2).bind fun t273 => (some (t273 == 0))) else (some false))) = some r := by rw [if_neg (show ¬ (false = true) by decide)] at H; exact H
       clear H
       have H := H1
       clear H1
       by_cases c23 : a1_1 = 2
       ·
        rw [if_pos c23] at H
        have c23b0 : (a1_1 == 2) = true := beq_iff_eq.mpr c23
        have c23b1 : (a1_1 != 2) = false := bne_eq_false_iff_eq.mpr c23
        clear c23
        replace H := ob H
        obtain ⟨t271, A240, H⟩ := H
        replace H : (if t271 = 1 then (some true) else (if a1_1 = 4 then ((shuttlecockref08_Holds.f kj13 l0_1 a1_2).bind fun t272 => (some (t272 == 0))) else (some false))) = some r := H
        have A24 := Am A240
        clear A240
        by_cases c25 : t271 = 1
        ·
         rw [if_pos c25] at H
         have c25b0 : (t271 == 1) = true := beq_iff_eq.mpr c25
         have c25b1 : (t271 != 1) = false := bne_eq_false_iff_eq.mpr c25
         clear c25
         obtain rfl := Option.some.inj H
         have hnb26 := NB269_268.out
         have hnc26 := NB268_269.out
         have hcz27_0 : wc.cell? ⟨gb269, 0, none⟩ = some (.int .i64 a1_0) := (bc BK269.out 0).trans rfl
         have hcz27_1 : wc.cell? ⟨gb269, 1, none⟩ = some (.int .i64 a1_1) := (bc BK269.out 1).trans rfl
         have hcz27_2 : wc.cell? ⟨gb269, 2, none⟩ = some (.int .i64 a1_2) := (bc BK269.out 2).trans rfl
         have hcz27_3 : wc.cell? ⟨gb269, 3, none⟩ = some (.int .i64 a1_3) := (bc BK269.out 3).trans rfl
         have hfz27_0 := bf BK269.out 0
         have hfz27_1 := bf BK269.out 1
         have hfz27_2 := bf BK269.out 2
         have hfz27_3 := bf BK269.out 3
         have hcz28_0 : wc.cell? ⟨gb268, 0, none⟩ = some (.int .i64 a0_0) := (bc BK268.out 0).trans rfl
         have hcz28_1 : wc.cell? ⟨gb268, 1, none⟩ = some (.slice A0_1 l0_1.length c0_1) := (bc BK268.out 1).trans rfl
         have hcz28_2 : wc.cell? ⟨gb268, 2, none⟩ = some (.slice A0_2 l0_2.length c0_2) := (bc BK268.out 2).trans rfl
         have hfz28_0 := bf BK268.out 0
         have hfz28_1 := bf BK268.out 1
         have hfz28_2 := bf BK268.out 2
         go_wp2_with (first | (go_at_call 17; (with_reducible refine (shuttlecockref08_Holds.calls kj13 _ _ l0_1 a1_2 t271 _ ?side1 ?side2 A24.out).mono ?_); (case side1 => repeat (first | exact (Kd.C_below HR0_1.out HB.out) | (with_reducible refine Kd.C_alloc ?_ _) | (with_reducible refine Kd.C_drewN ?_ _) | (with_reducible refine Kd.C_drew ?_))); (case side2 => exact HC0_1.out); rintro e w' ⟨rfl, ⟨nd, rfl⟩⟩))
         go_ret
         exact ⟨by first | rfl | (rw [Option.some.inj (A24.out.symm.trans A30.out)]; first | done | rfl) | (simp [errW_none, errW_some] <;> rfl) | (simp [*, errW_none, errW_some] <;> rfl) | (simp [Aid.ne_nil, Aid.eq_nil, errW_none, errW_some]; done), by repeat (first | (with_reducible first | exact HB.out | apply bl | apply pN | apply b1 | refine bs ?_ GE268.out | refine bs ?_ GE269.out) | exact HB.out | exact HBo.out)⟩
        ·
         rw [if_neg c25] at H
         have c25b0 : (t271 == 1) = false := beq_eq_false_iff_ne.mpr c25
         have c25b1 : (t271 != 1) = true := bne_iff_ne.mpr c25
         by_cases c29 : a1_1 = 4
         ·
          rw [if_pos c29] at H
          have c29b0 : (a1_1 == 4) = true := beq_iff_eq.mpr c29
          have c29b1 : (a1_1 != 4) = false := bne_eq_false_iff_eq.mpr c29
          clear c29
          replace H := ob H
          obtain ⟨t272, A300, H⟩ := H
          replace H : (some (t272 == 0)) = some r := H
          have A30 := Am A300
          clear A300
          obtain rfl := Option.some.inj H
          have hnb31 := NB269_268.out
          have hnc31 := NB268_269.out
          have hcz32_0 : wc.cell? ⟨gb269, 0, none⟩ = some (.int .i64 a1_0) := (bc BK269.out 0).trans rfl
          have hcz32_1 : wc.cell? ⟨gb269, 1, none⟩ = some (.int .i64 a1_1) := (bc BK269.out 1).trans rfl
          have hcz32_2 : wc.cell? ⟨gb269, 2, none⟩ = some (.int .i64 a1_2) := (bc BK269.out 2).trans rfl
          have hcz32_3 : wc.cell? ⟨gb269, 3, none⟩ = some (.int .i64 a1_3) := (bc BK269.out 3).trans rfl
          have hfz32_0 := bf BK269.out 0
          have hfz32_1 := bf BK269.out 1
          have hfz32_2 := bf BK269.out 2
          have hfz32_3 := bf BK269.out 3
          have hcz33_0 : wc.cell? ⟨gb268, 0, none⟩ = some (.int .i64 a0_0) := (bc BK268.out 0).trans rfl
          have hcz33_1 : wc.cell? ⟨gb268, 1, none⟩ = some (.slice A0_1 l0_1.length c0_1) := (bc BK268.out 1).trans rfl
          have hcz33_2 : wc.cell? ⟨gb268, 2, none⟩ = some (.slice A0_2 l0_2.length c0_2) := (bc BK268.out 2).trans rfl
          have hfz33_0 := bf BK268.out 0
          have hfz33_1 := bf BK268.out 1
          have hfz33_2 := bf BK268.out 2
          go_wp2_with (first | (go_at_call 17; (with_reducible refine (shuttlecockref08_Holds.calls kj13 _ _ l0_1 a1_2 t271 _ ?side1 ?side2 A24.out).mono ?_); (case side1 => repeat (first | exact (Kd.C_below HR0_1.out HB.out) | (with_reducible refine Kd.C_alloc ?_ _) | (with_reducible refine Kd.C_drewN ?_ _) | (with_reducible refine Kd.C_drew ?_))); (case side2 => exact HC0_1.out); rintro e w' ⟨rfl, ⟨nd, rfl⟩⟩) | (go_at_call 17; (with_reducible refine (shuttlecockref08_Holds.calls kj13 _ _ l0_1 a1_2 t272 _ ?side1 ?side2 A30.out).mono ?_); (case side1 => repeat (first | exact (Kd.C_below HR0_1.out (by repeat (first | (with_reducible first | exact HB.out | apply bl | apply pN | apply b1 | refine bs ?_ GE268.out | refine bs ?_ GE269.out) | exact HB.out | exact HBo.out))) | (with_reducible refine Kd.C_alloc ?_ _) | (with_reducible refine Kd.C_drewN ?_ _) | (with_reducible refine Kd.C_drew ?_))); (case side2 => exact HC0_1.out); rintro e w' ⟨rfl, ⟨nd, rfl⟩⟩))
          go_ret
          exact ⟨by first | rfl | (rw [Option.some.inj (A24.out.symm.trans A30.out)]; first | done | rfl) | (simp [errW_none, errW_some] <;> rfl) | (simp [*, errW_none, errW_some] <;> rfl) | (simp [Aid.ne_nil, Aid.eq_nil, errW_none, errW_some]; done), by repeat (first | (with_reducible first | exact HB.out | apply bl | apply pN | apply b1 | refine bs ?_ GE268.out | refine bs ?_ GE269.out) | exact HB.out | exact HBo.out)⟩
         ·
          rw [if_neg c29] at H
          have c29b0 : (a1_1 == 4) = false := beq_eq_false_iff_ne.mpr c29
          have c29b1 : (a1_1 != 4) = true := bne_iff_ne.mpr c29
          obtain rfl := Option.some.inj H
          have hnb34 := NB269_268.out
          have hnc34 := NB268_269.out
          have hcz35_0 : wc.cell? ⟨gb269, 0, none⟩ = some (.int .i64 a1_0) := (bc BK269.out 0).trans rfl
          have hcz35_1 : wc.cell? ⟨gb269, 1, none⟩ = some (.int .i64 a1_1) := (bc BK269.out 1).trans rfl
          have hcz35_2 : wc.cell? ⟨gb269, 2, none⟩ = some (.int .i64 a1_2) := (bc BK269.out 2).trans rfl
          have hcz35_3 : wc.cell? ⟨gb269, 3, none⟩ = some (.int .i64 a1_3) := (bc BK269.out 3).trans rfl
          have hfz35_0 := bf BK269.out 0
          have hfz35_1 := bf BK269.out 1
          have hfz35_2 := bf BK269.out 2
          have hfz35_3 := bf BK269.out 3
          have hcz36_0 : wc.cell? ⟨gb268, 0, none⟩ = some (.int .i64 a0_0) := (bc BK268.out 0).trans rfl
          have hcz36_1 : wc.cell? ⟨gb268, 1, none⟩ = some (.slice A0_1 l0_1.length c0_1) := (bc BK268.out 1).trans rfl
          have hcz36_2 : wc.cell? ⟨gb268, 2, none⟩ = some (.slice A0_2 l0_2.length c0_2) := (bc BK268.out 2).trans rfl
          have hfz36_0 := bf BK268.out 0
          have hfz36_1 := bf BK268.out 1
          have hfz36_2 := bf BK268.out 2
          go_wp2_with (first | (go_at_call 17; (with_reducible refine (shuttlecockref08_Holds.calls kj13 _ _ l0_1 a1_2 t271 _ ?side1 ?side2 A24.out).mono ?_); (case side1 => repeat (first | exact (Kd.C_below HR0_1.out HB.out) | (with_reducible refine Kd.C_alloc ?_ _) | (with_reducible refine Kd.C_drewN ?_ _) | (with_reducible refine Kd.C_drew ?_))); (case side2 => exact HC0_1.out); rintro e w' ⟨rfl, ⟨nd, rfl⟩⟩))
          go_ret
          exact ⟨by first | rfl | (rw [Option.some.inj (A24.out.symm.trans A30.out)]; first | done | rfl) | (simp [errW_none, errW_some] <;> rfl) | (simp [*, errW_none, errW_some] <;> rfl) | (simp [Aid.ne_nil, Aid.eq_nil, errW_none, errW_some]; done), by repeat (first | (with_reducible first | exact HB.out | apply bl | apply pN | apply b1 | refine bs ?_ GE268.out | refine bs ?_ GE269.out) | exact HB.out | exact HBo.out)⟩
       ·
        rw [if_neg c23] at H
        have c23b0 : (a1_1 == 2) = false := beq_eq_false_iff_ne.mpr c23
        have c23b1 : (a1_1 != 2) = true := bne_iff_ne.mpr c23
        by_cases c37 : a1_1 = 4
        ·
         rw [if_pos c37] at H
         have c37b0 : (a1_1 == 4) = true := beq_iff_eq.mpr c37
         have c37b1 : (a1_1 != 4) = false := bne_eq_false_iff_eq.mpr c37
         clear c37
         replace H := ob H
         obtain ⟨t273, A380, H⟩ := H
         replace H : (some (t273 == 0)) = some r := H
         have A38 := Am A380
         clear A380
         obtain rfl := Option.some.inj H
         have hnb39 := NB269_268.out
         have hnc39 := NB268_269.out
         have hcz40_0 : wc.cell? ⟨gb269, 0, none⟩ = some (.int .i64 a1_0) := (bc BK269.out 0).trans rfl
         have hcz40_1 : wc.cell? ⟨gb269, 1, none⟩ = some (.int .i64 a1_1) := (bc BK269.out 1).trans rfl
         have hcz40_2 : wc.cell? ⟨gb269, 2, none⟩ = some (.int .i64 a1_2) := (bc BK269.out 2).trans rfl
         have hcz40_3 : wc.cell? ⟨gb269, 3, none⟩ = some (.int .i64 a1_3) := (bc BK269.out 3).trans rfl
         have hfz40_0 := bf BK269.out 0
         have hfz40_1 := bf BK269.out 1
         have hfz40_2 := bf BK269.out 2
         have hfz40_3 := bf BK269.out 3
         have hcz41_0 : wc.cell? ⟨gb268, 0, none⟩ = some (.int .i64 a0_0) := (bc BK268.out 0).trans rfl
         have hcz41_1 : wc.cell? ⟨gb268, 1, none⟩ = some (.slice A0_1 l0_1.length c0_1) := (bc BK268.out 1).trans rfl
         have hcz41_2 : wc.cell? ⟨gb268, 2, none⟩ = some (.slice A0_2 l0_2.length c0_2) := (bc BK268.out 2).trans rfl
         have hfz41_0 := bf BK268.out 0
         have hfz41_1 := bf BK268.out 1
         have hfz41_2 := bf BK268.out 2
         go_wp2_with (first | (go_at_call 17; (with_reducible refine (shuttlecockref08_Holds.calls kj13 _ _ l0_1 a1_2 t273 _ ?side1 ?side2 A38.out).mono ?_); (case side1 => repeat (first | exact (Kd.C_below HR0_1.out HB.out) | (with_reducible refine Kd.C_alloc ?_ _) | (with_reducible refine Kd.C_drewN ?_ _) | (with_reducible refine Kd.C_drew ?_))); (case side2 => exact HC0_1.out); rintro e w' ⟨rfl, ⟨nd, rfl⟩⟩))
         go_ret
         exact ⟨by first | rfl | (rw [Option.some.inj (A24.out.symm.trans A30.out)]; first | done | rfl) | (simp [errW_none, errW_some] <;> rfl) | (simp [*, errW_none, errW_some] <;> rfl) | (simp [Aid.ne_nil, Aid.eq_nil, errW_none, errW_some]; done), by repeat (first | (with_reducible first | exact HB.out | apply bl | apply pN | apply b1 | refine bs ?_ GE268.out | refine bs ?_ GE269.out) | exact HB.out | exact HBo.out)⟩
        ·
         rw [if_neg c37] at H
         have c37b0 : (a1_1 == 4) = false := beq_eq_false_iff_ne.mpr c37
         have c37b1 : (a1_1 != 4) = true := bne_iff_ne.mpr c37
         obtain rfl := Option.some.inj H
         have hnb42 := NB269_268.out
         have hnc42 := NB268_269.out
         have hcz43_0 : wc.cell? ⟨gb269, 0, none⟩ = some (.int .i64 a1_0) := (bc BK269.out 0).trans rfl
         have hcz43_1 : wc.cell? ⟨gb269, 1, none⟩ = some (.int .i64 a1_1) := (bc BK269.out 1).trans rfl
         have hcz43_2 : wc.cell? ⟨gb269, 2, none⟩ = some (.int .i64 a1_2) := (bc BK269.out 2).trans rfl
         have hcz43_3 : wc.cell? ⟨gb269, 3, none⟩ = some (.int .i64 a1_3) := (bc BK269.out 3).trans rfl
         have hfz43_0 := bf BK269.out 0
         have hfz43_1 := bf BK269.out 1
         have hfz43_2 := bf BK269.out 2
         have hfz43_3 := bf BK269.out 3
         go_wp2
         go_ret
         exact ⟨by first | rfl | (rw [Option.some.inj (A24.out.symm.trans A30.out)]; first | done | rfl) | (simp [errW_none, errW_some] <;> rfl) | (simp [*, errW_none, errW_some] <;> rfl) | (simp [Aid.ne_nil, Aid.eq_nil, errW_none, errW_some]; done), by repeat (first | (with_reducible first | exact HB.out | apply bl | apply pN | apply b1 | refine bs ?_ GE268.out | refine bs ?_ GE269.out) | exact HB.out | exact HBo.out)⟩

end Go.Proofs.Ythfdhoegboeaeaa.Q
