-- printed by a program of this session (NOTES: hprint); not the kit's print
-- minified
-- halved
import Derived.Test.YtfcombimnmkoeaaAl
import Derived.Test.YtfcombimnmkoeaaQx0
namespace Go.Proofs.Ytfcombimnmkoeaa.Q
open Go.RowKit Go.Proofs.YtfcombimnmkoeaaW.PrintWords Go.Proofs.YtfcombimnmkoeaaW.PrintLast Go.Proofs.YtfcombimnmkoeaaW.PrintMore
attribute [local go_sem] max2_int min2_int max_two min_two max_three min_three max_four min_four   -- for this text's walks alone
set_option linter.unusedVariables false
set_option linter.unusedSimpArgs false

/-! ### shuttlecockref04_Short: function 19 -/
def shuttlecockref04_Short.l0 : Nat → List (S41) → Int → Option (Bool)
 | 0, _, _ => none
 | k + 1, x0, x3 => if x3 < (x0.length : Int) then (if 0 ≤ x3 then (if (((rd_T41 x0 x3).f2).length : Int) > 20 then (some false) else (if (((rd_T41 x0 x3).f3).size : Int) > 300 then (some false) else (shuttlecockref04_Short.l0 k x0 (wrap64 (x3 + 1))))) else (none)) else (some (decide ((x0.length : Int) ≤ 60)))
def shuttlecockref04_Short.f (k : Nat) (l0 : List (S41)) : Option (Bool) := shuttlecockref04_Short.l0 k l0 0
theorem shuttlecockref04_Short.mono_l : ∀ k, (∀ y0 y1, LeO (shuttlecockref04_Short.l0 k y0 y1) (shuttlecockref04_Short.l0 (k + 1) y0 y1))
 | 0 => fun _ _ r h => by simp [shuttlecockref04_Short.l0] at h
 | k + 1 => by
  have ih0 := shuttlecockref04_Short.mono_l k
  ·
   intro y0 y1
   unfold shuttlecockref04_Short.l0
   repeat' first
   | (with_reducible exact ih0 _ _)
   | (with_reducible exact LeO.refl _)
   | (with_reducible exact LeO.none _)
   | (with_reducible refine LeO.ite ?_ ?_)
   | (with_reducible refine LeO.bind ?_ (fun _ => ?_))
   | exact ih0 _ _
   | exact LeO.none _
   | refine LeO.ite ?_ ?_
   | refine LeO.bind ?_ (fun _ => ?_)
theorem shuttlecockref04_Short.mono : ∀ a0 k, LeO (shuttlecockref04_Short.f k a0) (shuttlecockref04_Short.f (k + 1) a0) := by
 intro a0 k
 have ih0 := shuttlecockref04_Short.mono_l k
 unfold shuttlecockref04_Short.f
 repeat' first
   | (with_reducible exact ih0 _ _)
   | (with_reducible exact LeO.refl _)
   | (with_reducible exact LeO.none _)
   | (with_reducible refine LeO.ite ?_ ?_)
   | (with_reducible refine LeO.bind ?_ (fun _ => ?_))
   | exact ih0 _ _
   | exact LeO.none _
   | refine LeO.ite ?_ ?_
   | refine LeO.bind ?_ (fun _ => ?_)
set_option maxHeartbeats 8000000 in
set_option maxRecDepth 100000 in
theorem shuttlecockref04_Short.calls (k : Nat) (A0 : Option Addr) (c0 : Nat) (l0 : List (S41)) (r : Bool) (w : World) (hr0 : Kd.C k41 w A0 l0.length l0) (hc0 : l0.length ≤ c0) (h : shuttlecockref04_Short.f k l0 = some r) :
  Calls Try.prog 19 #[.slice A0 l0.length c0] w fun e w' => e = .returned (.bool r) ∧ Drawn0 w w' := by
 have HR0 := Am hr0
 have HC0 := Am hc0
 clear hr0 hc0
 have H : (shuttlecockref04_Short.l0 k l0 0) = some r := h
 clear h
 have H' := Am H
 clear H
 go_enter Try.func19, Try.ntmps19
 go_wp2
 go_loopg [3] k (fun kq v3 w' => ∃ (x3_1 : Int), v3 = .int .i64 x3_1 ∧ Aside0 (shuttlecockref04_Short.l0 kq l0 x3_1 = some r) ∧ Aside0 (kq ≤ k) ∧ Drawn0 w w')
 case atStart => exact ⟨(0), (by first | rfl | (simp; done) | (simp [*]; done)), H', ⟨Nat.le_refl _⟩, by repeat (first | exact Drawn0.refl _ | apply Drawn0.step)⟩
 case round =>
  clear H'
  try clear c1
  obtain ⟨x3_1, rfl, HA, HK1, ⟨m1, rfl⟩⟩ := hrel
  cases gk with
  | zero => exact absurd HA.out (by simp [shuttlecockref04_Short.l0])
  | succ k1 =>
   have H := HA.out
   clear HA
   simp only [shuttlecockref04_Short.l0] at H
   by_cases c2 : x3_1 < (l0.length : Int)
   ·
    rw [if_pos c2] at H
    have c2b0 : decide (x3_1 < (l0.length : Int)) = true := decide_eq_true c2
    clear c2
    by_cases c3 : 0 ≤ x3_1
    ·
     rw [if_pos c3] at H
     have c3b0 : decide (0 ≤ x3_1) = true := decide_eq_true c3
     clear c3
     by_cases c4 : (((rd_T41 l0 x3_1).f2).length : Int) > 20
     ·
      rw [if_pos c4] at H
      have c4b0 : decide (20 < (((rd_T41 l0 x3_1).f2).length : Int)) = true := decide_eq_true c4
      have c4b1 : decide (20 < ((rd_T41 l0 x3_1).f2).length) = true := decide_eq_true (by omega)
      clear c4
      obtain rfl := Option.some.inj H
      have p596 : 0 ≤ (x3_1 : Int) := of_decide_eq_true (by first | (with_reducible assumption) | assumption)
      have q596 : x3_1 < (l0.length : Int) := of_decide_eq_true (by first | (with_reducible assumption) | assumption)
      obtain ⟨ad596, A596_2, c596_2, e596, hx596_0, hx596_1, hx596_2, hx596_3, hl596_2, hi596_2⟩ := at_T41 HR0.out x3_1 p596 q596
      cases e596
      have HR596_2 := Am hi596_2
      have HC596_2 := Am hl596_2
      clear hi596_2 hl596_2
      replace p596 := eq_true p596
      replace q596 := eq_true q596
      go_wp2
      go_ret
      exact ⟨by first | rfl | (simp; done) | (simp [*]; done), by repeat (first | exact Drawn0.refl _ | apply Drawn0.step)⟩
     ·
      rw [if_neg c4] at H
      have c4b0 : decide (20 < (((rd_T41 l0 x3_1).f2).length : Int)) = false := decide_eq_false c4
      have c4b1 : decide (20 < ((rd_T41 l0 x3_1).f2).length) = false := decide_eq_false (by omega)
      clear c4
      by_cases c5 : (((rd_T41 l0 x3_1).f3).size : Int) > 300
      ·
       rw [if_pos c5] at H
       have c5b0 : decide (300 < (((rd_T41 l0 x3_1).f3).size : Int)) = true := decide_eq_true c5
       have c5b1 : decide (300 < ((rd_T41 l0 x3_1).f3).size) = true := decide_eq_true (by omega)
       clear c5
       obtain rfl := Option.some.inj H
       have p596 : 0 ≤ (x3_1 : Int) := of_decide_eq_true (by first | (with_reducible assumption) | assumption)
       have q596 : x3_1 < (l0.length : Int) := of_decide_eq_true (by first | (with_reducible assumption) | assumption)
       obtain ⟨ad596, A596_2, c596_2, e596, hx596_0, hx596_1, hx596_2, hx596_3, hl596_2, hi596_2⟩ := at_T41 HR0.out x3_1 p596 q596
       cases e596
       have HR596_2 := Am hi596_2
       have HC596_2 := Am hl596_2
       clear hi596_2 hl596_2
       replace p596 := eq_true p596
       replace q596 := eq_true q596
       have p597 : 0 ≤ (x3_1 : Int) := of_decide_eq_true (by first | (with_reducible assumption) | assumption)
       have q597 : x3_1 < (l0.length : Int) := of_decide_eq_true (by first | (with_reducible assumption) | assumption)
       obtain ⟨ad597, A597_2, c597_2, e597, hx597_0, hx597_1, hx597_2, hx597_3, hl597_2, hi597_2⟩ := at_T41 HR0.out x3_1 p597 q597
       obtain rfl : ad596 = ad597 := (by injection e597)
       have HR597_2 := Am hi597_2
       have HC597_2 := Am hl597_2
       clear hi597_2 hl597_2
       replace p597 := eq_true p597
       replace q597 := eq_true q597
       have ea_ := Option.some.inj (hx596_2.symm.trans hx597_2)
       injection ea_ with ea_ en_ ec_
       subst ea_
       subst ec_
       clear en_
       go_wp2
       go_ret
       exact ⟨by first | rfl | (simp; done) | (simp [*]; done), by repeat (first | exact Drawn0.refl _ | apply Drawn0.step)⟩
      ·
       rw [if_neg c5] at H
       have c5b0 : decide (300 < (((rd_T41 l0 x3_1).f3).size : Int)) = false := decide_eq_false c5
       have c5b1 : decide (300 < ((rd_T41 l0 x3_1).f3).size) = false := decide_eq_false (by omega)
       clear c5
       have H' := Am H
       clear H
       have p596 : 0 ≤ (x3_1 : Int) := of_decide_eq_true (by first | (with_reducible assumption) | assumption)
       have q596 : x3_1 < (l0.length : Int) := of_decide_eq_true (by first | (with_reducible assumption) | assumption)
       obtain ⟨ad596, A596_2, c596_2, e596, hx596_0, hx596_1, hx596_2, hx596_3, hl596_2, hi596_2⟩ := at_T41 HR0.out x3_1 p596 q596
       cases e596
       have HR596_2 := Am hi596_2
       have HC596_2 := Am hl596_2
       clear hi596_2 hl596_2
       replace p596 := eq_true p596
       replace q596 := eq_true q596
       have p597 : 0 ≤ (x3_1 : Int) := of_decide_eq_true (by first | (with_reducible assumption) | assumption)
       have q597 : x3_1 < (l0.length : Int) := of_decide_eq_true (by first | (with_reducible assumption) | assumption)
       obtain ⟨ad597, A597_2, c597_2, e597, hx597_0, hx597_1, hx597_2, hx597_3, hl597_2, hi597_2⟩ := at_T41 HR0.out x3_1 p597 q597
       obtain rfl : ad596 = ad597 := (by injection e597)
       have HR597_2 := Am hi597_2
       have HC597_2 := Am hl597_2
       clear hi597_2 hl597_2
       replace p597 := eq_true p597
       replace q597 := eq_true q597
       have ea_ := Option.some.inj (hx596_2.symm.trans hx597_2)
       injection ea_ with ea_ en_ ec_
       subst ea_
       subst ec_
       clear en_
       go_wp2
       go_roundg k1
       case measure => have := HK1.out; omega
       case rel => exact ⟨(wrap64 (x3_1 + 1)), (by first | rfl | (simp; done) | (simp [*]; done)), H', ⟨by have := HK1.out; omega⟩, by repeat (first | exact Drawn0.refl _ | apply Drawn0.step)⟩
    ·
     rw [if_neg c3] at H
     exact absurd H (by simp)
   ·
    rw [if_neg c2] at H
    have c2b0 : decide (x3_1 < (l0.length : Int)) = false := decide_eq_false c2
    clear c2
    obtain rfl := Option.some.inj H
    go_wp2
    go_ret
    exact ⟨by first | rfl | (simp; done) | (simp [*]; done), by repeat (first | exact Drawn0.refl _ | apply Drawn0.step)⟩

end Go.Proofs.Ytfcombimnmkoeaa.Q
