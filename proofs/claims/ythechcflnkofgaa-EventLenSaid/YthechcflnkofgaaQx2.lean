-- printed by a program of this session (NOTES: hprint); not the kit's print
-- minified
-- halved
import Derived.Test.YthechcflnkofgaaAl
import Derived.Test.YthechcflnkofgaaQx0
import Derived.Test.YthechcflnkofgaaQx1
namespace Go.Proofs.Ythechcflnkofgaa.Q
open Go.RowKit Go.Proofs.YthechcflnkofgaaW.PrintWords Go.Proofs.YthechcflnkofgaaW.PrintLast Go.Proofs.YthechcflnkofgaaW.PrintMore
attribute [local go_sem] max2_int min2_int max_two min_two max_three min_three max_four min_four   -- for this text's walks alone
set_option linter.unusedVariables false
set_option linter.unusedSimpArgs false

/-! ### varint_Take: function 52 -/
mutual
def varint_Take.j0 : Nat → ByteArray → Int → Bool → Option (Int × Int × Int)
 | 0, _, _, _ => none
 | k + 1, x0, x1, x17 => if x17 = true then (some (0, 0, 1)) else (varint_Take.l0 k x0 x1 0 (mn 9 (wrap64 ((x0.size : Int) - x1))) 0)
def varint_Take.l0 : Nat → ByteArray → Int → Int → Int → Int → Option (Int × Int × Int)
 | 0, _, _, _, _, _ => none
 | k + 1, x0, x1, x7, x22, x23 => if x23 < x22 then (if 0 ≤ (wrap64 (x1 + x23)) then (if (wrap64 (x1 + x23)) < (x0.size : Int) then (if 0 ≤ (wrap64 (7 * x23)) then (if (wrap64 (bt x0 (wrap64 (x1 + x23)))) ≥ 128 then (varint_Take.l0 k x0 x1 (Go.bits .or .i64 x7 (shl .i64 (Go.bits .and .i64 (wrap64 (bt x0 (wrap64 (x1 + x23)))) 127) (wrap64 (7 * x23)))) x22 (wrap64 (x23 + 1))) else (if (wrap64 (bt x0 (wrap64 (x1 + x23)))) = 0 then (if x23 > 0 then (some (0, 0, 11)) else (if (Go.bits .or .i64 x7 (shl .i64 (Go.bits .and .i64 (wrap64 (bt x0 (wrap64 (x1 + x23)))) 127) (wrap64 (7 * x23)))) ≥ 4611686018427387904 then (some (0, 0, 11)) else (if (Go.bits .or .i64 x7 (shl .i64 (Go.bits .and .i64 (wrap64 (bt x0 (wrap64 (x1 + x23)))) 127) (wrap64 (7 * x23)))) < 0 then (some (0, 0, 11)) else (some (Go.bits .or .i64 x7 (shl .i64 (Go.bits .and .i64 (wrap64 (bt x0 (wrap64 (x1 + x23)))) 127) (wrap64 (7 * x23))), wrap64 ((wrap64 (x1 + x23)) + 1), 0))))) else (if (Go.bits .or .i64 x7 (shl .i64 (Go.bits .and .i64 (wrap64 (bt x0 (wrap64 (x1 + x23)))) 127) (wrap64 (7 * x23)))) ≥ 4611686018427387904 then (some (0, 0, 11)) else (if (Go.bits .or .i64 x7 (shl .i64 (Go.bits .and .i64 (wrap64 (bt x0 (wrap64 (x1 + x23)))) 127) (wrap64 (7 * x23)))) < 0 then (some (0, 0, 11)) else (some (Go.bits .or .i64 x7 (shl .i64 (Go.bits .and .i64 (wrap64 (bt x0 (wrap64 (x1 + x23)))) 127) (wrap64 (7 * x23))), wrap64 ((wrap64 (x1 + x23)) + 1), 0)))))) else (none)) else (none)) else (none)) else (if (wrap64 ((x0.size : Int) - x1)) < 9 then (some (0, 0, 10)) else (some (0, 0, 11)))
end
def varint_Take.f (k : Nat) (a0 : ByteArray) (a1 : Int) : Option (Int × Int × Int) := if a1 < 0 then (varint_Take.j0 k a0 a1 true) else (varint_Take.j0 k a0 a1 (decide (a1 > (a0.size : Int))))
theorem varint_Take.mono_l : ∀ k, (∀ y0 y1 y2, LeO (varint_Take.j0 k y0 y1 y2) (varint_Take.j0 (k + 1) y0 y1 y2)) ∧ (∀ y0 y1 y2 y3 y4, LeO (varint_Take.l0 k y0 y1 y2 y3 y4) (varint_Take.l0 (k + 1) y0 y1 y2 y3 y4))
 | 0 => ⟨fun _ _ _ r h => by simp [varint_Take.j0] at h, fun _ _ _ _ _ r h => by simp [varint_Take.l0] at h⟩
 | k + 1 => by
  obtain ⟨ih0, ih1⟩ := varint_Take.mono_l k
  refine ⟨?_, ?_⟩
  ·
   intro y0 y1 y2
   unfold varint_Take.j0
   repeat' first
   | (with_reducible exact ih0 _ _ _)
   | (with_reducible exact ih1 _ _ _ _ _)
   | (with_reducible exact LeO.refl _)
   | (with_reducible exact LeO.none _)
   | (with_reducible refine LeO.ite ?_ ?_)
   | (with_reducible refine LeO.bind ?_ (fun _ => ?_))
   | exact ih0 _ _ _
   | exact ih1 _ _ _ _ _
   | exact LeO.none _
   | refine LeO.ite ?_ ?_
   | refine LeO.bind ?_ (fun _ => ?_)
  ·
   intro y0 y1 y2 y3 y4
   unfold varint_Take.l0
   repeat' first
   | (with_reducible exact ih0 _ _ _)
   | (with_reducible exact ih1 _ _ _ _ _)
   | (with_reducible exact LeO.refl _)
   | (with_reducible exact LeO.none _)
   | (with_reducible refine LeO.ite ?_ ?_)
   | (with_reducible refine LeO.bind ?_ (fun _ => ?_))
   | exact ih0 _ _ _
   | exact ih1 _ _ _ _ _
   | exact LeO.none _
   | refine LeO.ite ?_ ?_
   | refine LeO.bind ?_ (fun _ => ?_)
theorem varint_Take.mono : ∀ a0 a1 k, LeO (varint_Take.f k a0 a1) (varint_Take.f (k + 1) a0 a1) := by
 intro a0 a1 k
 obtain ⟨ih0, ih1⟩ := varint_Take.mono_l k
 unfold varint_Take.f
 repeat' first
   | (with_reducible exact ih0 _ _ _)
   | (with_reducible exact ih1 _ _ _ _ _)
   | (with_reducible exact LeO.refl _)
   | (with_reducible exact LeO.none _)
   | (with_reducible refine LeO.ite ?_ ?_)
   | (with_reducible refine LeO.bind ?_ (fun _ => ?_))
   | exact ih0 _ _ _
   | exact ih1 _ _ _ _ _
   | exact LeO.none _
   | refine LeO.ite ?_ ?_
   | refine LeO.bind ?_ (fun _ => ?_)
set_option maxHeartbeats 8000000 in
set_option maxRecDepth 100000 in
theorem varint_Take.calls (k : Nat) (a0 : ByteArray) (a1 : Int) (r1 : Int) (r2 : Int) (r3 : Int) (w : World) (h : varint_Take.f k a0 a1 = some (r1, r2, r3)) :
  Calls Try.prog 52 #[.string a0, .int .i64 a1] w fun e w' => e = .returned (.tuple #[.int .i64 r1, .int .i64 r2, .int .i64 r3]) ∧ Drawn0 w w' := by
 have H : (if a1 < 0 then (varint_Take.j0 k a0 a1 true) else (varint_Take.j0 k a0 a1 (decide (a1 > (a0.size : Int))))) = some (r1, r2, r3) := h
 clear h
 have HC3 := Am H
 clear H
 go_enter Try.func52, Try.ntmps52
 go_upto_region 1 with (fail)
 go_cut [17] (fun v17 wc => ∃ (kq : Nat) (x17_2 : Bool), v17 = .bool x17_2 ∧ Aside0 (varint_Take.j0 kq a0 a1 x17_2 = some (r1, r2, r3)) ∧ Aside0 (kq ≤ k) ∧ Drawn0 w wc)
 case first =>
  have H := HC3.out
  clear HC3
  by_cases c4 : a1 < 0
  ·
   rw [if_pos c4] at H
   have c4b0 : decide (a1 < 0) = true := decide_eq_true c4
   clear c4
   (first | rw [c4b0] | (simp only [i64_w, i32_w]; rw [c4b0]) | skip)
   have H' := Am H
   clear H
   go_wp2
   go_meet
   case rel => exact ⟨_, (true), (by first | rfl | (simp; done) | (simp [*]; done)), H', ⟨by first | omega | exact Nat.le_refl _⟩, by repeat (first | exact Drawn0.refl _ | apply Drawn0.step)⟩
  ·
   rw [if_neg c4] at H
   have c4b0 : decide (a1 < 0) = false := decide_eq_false c4
   clear c4
   (first | rw [c4b0] | (simp only [i64_w, i32_w]; rw [c4b0]) | skip)
   have H' := Am H
   clear H
   go_wp2
   go_meet
   case rel => exact ⟨_, (decide (a1 > (a0.size : Int))), (by first | rfl | (simp; done) | (simp [*]; done)), H', ⟨by first | omega | exact Nat.le_refl _⟩, by repeat (first | exact Drawn0.refl _ | apply Drawn0.step)⟩
 case rest =>
  clear HC3
  try clear p2
  try clear c4
  try clear c4b0
  obtain ⟨kq, x17_2, rfl, HA, HJ2, ⟨mc2, rfl⟩⟩ := hcut
  cases kq with
  | zero => exact absurd HA.out (by simp [varint_Take.j0])
  | succ kj2 =>
   have H := HA.out
   clear HA
   simp only [varint_Take.j0] at H
   by_cases c5 : x17_2 = true
   ·
    subst c5
    have H1 : (some (0, 0, 1)) = some (r1, r2, r3) := by rw [if_pos rfl] at H; exact H
    clear H
    have H := H1
    clear H1
    simp only [Option.some.injEq, Prod.mk.injEq] at H
    obtain ⟨rfl, rfl, rfl⟩ := H
    go_wp2
    go_ret3
    exact ⟨by first | rfl | (simp; done) | (simp [*]; done), by repeat (first | exact Drawn0.refl _ | apply Drawn0.step)⟩
   ·
    replace c5 := Bool.eq_false_iff.mpr c5
    subst c5
    have H1 : (varint_Take.l0 kj2 a0 a1 0 (mn 9 (wrap64 ((a0.size : Int) - a1))) 0) = some (r1, r2, r3) := by rw [if_neg (show ¬ (false = true) by decide)] at H; exact H
    clear H
    have H := H1
    clear H1
    obtain ⟨ji6, hji6⟩ : ∃ j_ : Int, (mn 9 (wrap64 ((a0.size : Int) - a1))) = j_ := ⟨_, rfl⟩
    replace H : (varint_Take.l0 kj2 a0 a1 0 ji6 0) = some (r1, r2, r3) := by first | (rw [hji6] at H; exact H) | (simp only [hji6] at H ⊢; exact H)
    have hji6_ : (if (wrap64 ((a0.size : Int) - a1)) < 9 then (wrap64 ((a0.size : Int) - a1)) else 9) = ji6 := hji6
    have H' := Am H
    clear H
    go_wp2
    go_loopg [7, 23] kj2 (fun kq v7 v23 w' => ∃ (x7_2 : Int) (x23_2 : Int), v7 = .int .i64 x7_2 ∧ v23 = .int .i64 x23_2 ∧ Aside0 (varint_Take.l0 kq a0 a1 x7_2 ji6 x23_2 = some (r1, r2, r3)) ∧ Aside0 (kq ≤ kj2) ∧ Drawn0 w w')
    case atStart => exact ⟨(0), (0), (by first | rfl | (simp; done) | (simp [*]; done)), (by first | rfl | (simp; done) | (simp [*]; done)), H', ⟨Nat.le_refl _⟩, by repeat (first | exact Drawn0.refl _ | apply Drawn0.step)⟩
    case round =>
     clear H'
     try clear c2
     try clear p2
     try clear c4
     try clear c4b0
     try clear c5
     try clear p6
     try clear p2
     obtain ⟨x7_2, x23_2, rfl, rfl, HA, HK2, ⟨m2, rfl⟩⟩ := hrel
     cases gk with
     | zero => exact absurd HA.out (by simp [varint_Take.l0])
     | succ k2 =>
      have H := HA.out
      clear HA
      simp only [varint_Take.l0] at H
      by_cases c7 : x23_2 < ji6
      ·
       rw [if_pos c7] at H
       have c7b0 : decide (x23_2 < ji6) = true := decide_eq_true c7
       clear c7
       obtain ⟨ji8, hji8⟩ : ∃ j_ : Int, (wrap64 (a1 + x23_2)) = j_ := ⟨_, rfl⟩
       replace H : (if 0 ≤ (ji8) then (if (ji8) < (a0.size : Int) then (if 0 ≤ (wrap64 (7 * x23_2)) then (if (wrap64 (bt a0 (ji8))) ≥ 128 then (varint_Take.l0 k2 a0 a1 (Go.bits .or .i64 x7_2 (shl .i64 (Go.bits .and .i64 (wrap64 (bt a0 (ji8))) 127) (wrap64 (7 * x23_2)))) ji6 (wrap64 (x23_2 + 1))) else (if (wrap64 (bt a0 (ji8))) = 0 then (if x23_2 > 0 then (some (0, 0, 11)) else (if (Go.bits .or .i64 x7_2 (shl .i64 (Go.bits .and .i64 (wrap64 (bt a0 (ji8))) 127) (wrap64 (7 * x23_2)))) ≥ 4611686018427387904 then (some (0, 0, 11)) else (if (Go.bits .or .i64 x7_2 (shl .i64 (Go.bits .and .i64 (wrap64 (bt a0 (ji8))) 127) (wrap64 (7 * x23_2)))) < 0 then (some (0, 0, 11)) else (some (Go.bits .or .i64 x7_2 (shl .i64 (Go.bits .and .i64 (wrap64 (bt a0 (ji8))) 127) (wrap64 (7 * x23_2))), wrap64 ((ji8) + 1), 0))))) else (if (Go.bits .or .i64 x7_2 (shl .i64 (Go.bits .and .i64 (wrap64 (bt a0 (ji8))) 127) (wrap64 (7 * x23_2)))) ≥ 4611686018427387904 then (some (0, 0, 11)) else (if (Go.bits .or .i64 x7_2 (shl .i64 (Go.bits .and .i64 (wrap64 (bt a0 (ji8))) 127) (wrap64 (7 * x23_2)))) < 0 then (some (0, 0, 11)) else (some (Go.bits .or .i64 x7_2 (shl .i64 (Go.bits .and .i64 (wrap64 (bt a0 (ji8))) 127) (wrap64 (7 * x23_2))), wrap64 ((ji8) + 1), 0)))))) else (none)) else (none)) else (none)) = some (r1, r2, r3) := by first | (rw [hji8] at H; exact H) | (simp only [hji8] at H ⊢; exact H)
       have hji8w : (IntKind.i64.wrap (a1 + x23_2)) = ji8 := (i64_w _).trans hji8
       by_cases c9 : 0 ≤ (ji8)
       ·
        rw [if_pos c9] at H
        have c9b0 : decide (0 ≤ (ji8)) = true := decide_eq_true c9
        clear c9
        by_cases c10 : (ji8) < (a0.size : Int)
        ·
         rw [if_pos c10] at H
         have c10b0 : decide ((ji8) < (a0.size : Int)) = true := decide_eq_true c10
         clear c10
         obtain ⟨ji12, hji12⟩ : ∃ j_ : Int, (wrap64 (7 * x23_2)) = j_ := ⟨_, rfl⟩
         replace H : (if 0 ≤ (ji12) then (if (wrap64 (bt a0 (ji8))) ≥ 128 then (varint_Take.l0 k2 a0 a1 (Go.bits .or .i64 x7_2 (shl .i64 (Go.bits .and .i64 (wrap64 (bt a0 (ji8))) 127) (ji12))) ji6 (wrap64 (x23_2 + 1))) else (if (wrap64 (bt a0 (ji8))) = 0 then (if x23_2 > 0 then (some (0, 0, 11)) else (if (Go.bits .or .i64 x7_2 (shl .i64 (Go.bits .and .i64 (wrap64 (bt a0 (ji8))) 127) (ji12))) ≥ 4611686018427387904 then (some (0, 0, 11)) else (if (Go.bits .or .i64 x7_2 (shl .i64 (Go.bits .and .i64 (wrap64 (bt a0 (ji8))) 127) (ji12))) < 0 then (some (0, 0, 11)) else (some (Go.bits .or .i64 x7_2 (shl .i64 (Go.bits .and .i64 (wrap64 (bt a0 (ji8))) 127) (ji12)), wrap64 ((ji8) + 1), 0))))) else (if (Go.bits .or .i64 x7_2 (shl .i64 (Go.bits .and .i64 (wrap64 (bt a0 (ji8))) 127) (ji12))) ≥ 4611686018427387904 then (some (0, 0, 11)) else (if (Go.bits .or .i64 x7_2 (shl .i64 (Go.bits .and .i64 (wrap64 (bt a0 (ji8))) 127) (ji12))) < 0 then (some (0, 0, 11)) else (some (Go.bits .or .i64 x7_2 (shl .i64 (Go.bits .and .i64 (wrap64 (bt a0 (ji8))) 127) (ji12)), wrap64 ((ji8) + 1), 0)))))) else (none)) = some (r1, r2, r3) := by first | (rw [hji12] at H; exact H) | (simp only [hji12] at H ⊢; exact H)
         have hji12w : (IntKind.i64.wrap (7 * x23_2)) = ji12 := (i64_w _).trans hji12
         by_cases c13 : 0 ≤ (ji12)
         ·
          rw [if_pos c13] at H
          have c13b0 := eq_true c13
          have c13b1 : decide (0 ≤ (ji12)) = true := decide_eq_true c13
          clear c13
          obtain ⟨ji14, hji14⟩ : ∃ j_ : Int, (shl .i64 (Go.bits .and .i64 (wrap64 (bt a0 (ji8))) 127) (ji12)) = j_ := ⟨_, rfl⟩
          replace H : (if (wrap64 (bt a0 (ji8))) ≥ 128 then (varint_Take.l0 k2 a0 a1 (Go.bits .or .i64 x7_2 (ji14)) ji6 (wrap64 (x23_2 + 1))) else (if (wrap64 (bt a0 (ji8))) = 0 then (if x23_2 > 0 then (some (0, 0, 11)) else (if (Go.bits .or .i64 x7_2 (ji14)) ≥ 4611686018427387904 then (some (0, 0, 11)) else (if (Go.bits .or .i64 x7_2 (ji14)) < 0 then (some (0, 0, 11)) else (some (Go.bits .or .i64 x7_2 (ji14), wrap64 ((ji8) + 1), 0))))) else (if (Go.bits .or .i64 x7_2 (ji14)) ≥ 4611686018427387904 then (some (0, 0, 11)) else (if (Go.bits .or .i64 x7_2 (ji14)) < 0 then (some (0, 0, 11)) else (some (Go.bits .or .i64 x7_2 (ji14), wrap64 ((ji8) + 1), 0)))))) = some (r1, r2, r3) := by first | (rw [hji14] at H; exact H) | (simp only [hji14] at H ⊢; exact H)
          have hji14_ : (IntKind.i64.wrap ((Go.bits .and .i64 (wrap64 (bt a0 (ji8))) 127) * 2 ^ min (ji12).toNat 64)) = ji14 := hji14
          have hji14z : (ji12) ≤ 64 → (IntKind.i64.wrap ((Go.bits .and .i64 (wrap64 (bt a0 (ji8))) 127) * 2 ^ (ji12).toNat)) = ji14 := shl_small hji14
          have hji14y : (wrap64 ((Go.bits .and .i64 (wrap64 (bt a0 (ji8))) 127) * 2 ^ min (ji12).toNat 64)) = ji14 := (i64_w _).symm.trans hji14_
          have hji14x : (ji12) ≤ 64 → (wrap64 ((Go.bits .and .i64 (wrap64 (bt a0 (ji8))) 127) * 2 ^ (ji12).toNat)) = ji14 := fun h_ => (i64_w _).symm.trans (hji14z h_)
          by_cases c15 : (wrap64 (bt a0 (ji8))) ≥ 128
          ·
           rw [if_pos c15] at H
           have c15b0 : decide (128 ≤ (wrap64 (bt a0 (ji8)))) = true := decide_eq_true c15
           clear c15
           have H' := Am H
           clear H
           have p11 : 0 ≤ ((ji8) : Int) := of_decide_eq_true (by first | (with_reducible assumption) | assumption)
           have q11 : (ji8) < (a0.size : Int) := of_decide_eq_true (by first | (with_reducible assumption) | assumption)
           have hx11 := bt_at a0 (ji8)
           replace p11 := eq_true p11
           replace q11 := eq_true q11
           go_wp2
           go_roundg k2
           case measure => have := HJ2.out; have := HK2.out; omega
           case rel => exact ⟨(Go.bits .or .i64 x7_2 (ji14)), (wrap64 (x23_2 + 1)), (by first | rfl | (simp; done) | (simp only [← hji14] <;> (first | rfl | simp)) | (simp [*]; done)), (by first | rfl | (simp; done) | (simp [*]; done)), H', ⟨by have := HJ2.out; have := HK2.out; omega⟩, by repeat (first | exact Drawn0.refl _ | apply Drawn0.step)⟩
          ·
           rw [if_neg c15] at H
           have c15b0 : decide (128 ≤ (wrap64 (bt a0 (ji8)))) = false := decide_eq_false c15
           clear c15
           by_cases c16 : (wrap64 (bt a0 (ji8))) = 0
           ·
            rw [if_pos c16] at H
            have c16b0 : ((wrap64 (bt a0 (ji8))) == 0) = true := beq_iff_eq.mpr c16
            have c16b1 : ((wrap64 (bt a0 (ji8))) != 0) = false := bne_eq_false_iff_eq.mpr c16
            clear c16
            by_cases c17 : x23_2 > 0
            ·
             rw [if_pos c17] at H
             have c17b0 : decide (0 < x23_2) = true := decide_eq_true c17
             clear c17
             simp only [Option.some.injEq, Prod.mk.injEq] at H
             obtain ⟨rfl, rfl, rfl⟩ := H
             have p11 : 0 ≤ ((ji8) : Int) := of_decide_eq_true (by first | (with_reducible assumption) | assumption)
             have q11 : (ji8) < (a0.size : Int) := of_decide_eq_true (by first | (with_reducible assumption) | assumption)
             have hx11 := bt_at a0 (ji8)
             replace p11 := eq_true p11
             replace q11 := eq_true q11
             go_wp2
             go_ret3
             exact ⟨by first | rfl | (simp; done) | (simp only [← hji6, ← hji8, ← hji12, ← hji14] <;> (first | rfl | simp)) | (simp [*]; done), by repeat (first | exact Drawn0.refl _ | apply Drawn0.step)⟩
            ·
             rw [if_neg c17] at H
             have c17b0 : decide (0 < x23_2) = false := decide_eq_false c17
             clear c17
             by_cases c18 : (Go.bits .or .i64 x7_2 (ji14)) ≥ 4611686018427387904
             ·
              rw [if_pos c18] at H
              have c18b0 : decide (4611686018427387904 ≤ (Go.bits .or .i64 x7_2 (ji14))) = true := decide_eq_true c18
              clear c18
              simp only [Option.some.injEq, Prod.mk.injEq] at H
              obtain ⟨rfl, rfl, rfl⟩ := H
              have p11 : 0 ≤ ((ji8) : Int) := of_decide_eq_true (by first | (with_reducible assumption) | assumption)
              have q11 : (ji8) < (a0.size : Int) := of_decide_eq_true (by first | (with_reducible assumption) | assumption)
              have hx11 := bt_at a0 (ji8)
              replace p11 := eq_true p11
              replace q11 := eq_true q11
              go_wp2
              go_ret3
              exact ⟨by first | rfl | (simp; done) | (simp only [← hji6, ← hji8, ← hji12, ← hji14] <;> (first | rfl | simp)) | (simp [*]; done), by repeat (first | exact Drawn0.refl _ | apply Drawn0.step)⟩
             ·
              rw [if_neg c18] at H
              have c18b0 : decide (4611686018427387904 ≤ (Go.bits .or .i64 x7_2 (ji14))) = false := decide_eq_false c18
              clear c18
              by_cases c19 : (Go.bits .or .i64 x7_2 (ji14)) < 0
              ·
               rw [if_pos c19] at H
               have c19b0 : decide ((Go.bits .or .i64 x7_2 (ji14)) < 0) = true := decide_eq_true c19
               clear c19
               simp only [Option.some.injEq, Prod.mk.injEq] at H
               obtain ⟨rfl, rfl, rfl⟩ := H
               have p11 : 0 ≤ ((ji8) : Int) := of_decide_eq_true (by first | (with_reducible assumption) | assumption)
               have q11 : (ji8) < (a0.size : Int) := of_decide_eq_true (by first | (with_reducible assumption) | assumption)
               have hx11 := bt_at a0 (ji8)
               replace p11 := eq_true p11
               replace q11 := eq_true q11
               go_wp2
               go_ret3
               exact ⟨by first | rfl | (simp; done) | (simp only [← hji6, ← hji8, ← hji12, ← hji14] <;> (first | rfl | simp)) | (simp [*]; done), by repeat (first | exact Drawn0.refl _ | apply Drawn0.step)⟩
              ·
               rw [if_neg c19] at H
               have c19b0 : decide ((Go.bits .or .i64 x7_2 (ji14)) < 0) = false := decide_eq_false c19
               clear c19
               simp only [Option.some.injEq, Prod.mk.injEq] at H
               obtain ⟨rfl, rfl, rfl⟩ := H
               have p11 : 0 ≤ ((ji8) : Int) := of_decide_eq_true (by first | (with_reducible assumption) | assumption)
               have q11 : (ji8) < (a0.size : Int) := of_decide_eq_true (by first | (with_reducible assumption) | assumption)
               have hx11 := bt_at a0 (ji8)
               replace p11 := eq_true p11
               replace q11 := eq_true q11
               go_wp2
               go_ret3
               exact ⟨by first | rfl | (simp; done) | (simp only [← hji6, ← hji8, ← hji12, ← hji14] <;> (first | rfl | simp)) | (simp [*]; done), by repeat (first | exact Drawn0.refl _ | apply Drawn0.step)⟩
           ·
            rw [if_neg c16] at H
            have c16b0 : ((wrap64 (bt a0 (ji8))) == 0) = false := beq_eq_false_iff_ne.mpr c16
            have c16b1 : ((wrap64 (bt a0 (ji8))) != 0) = true := bne_iff_ne.mpr c16
            by_cases c20 : (Go.bits .or .i64 x7_2 (ji14)) ≥ 4611686018427387904
            ·
             rw [if_pos c20] at H
             have c20b0 : decide (4611686018427387904 ≤ (Go.bits .or .i64 x7_2 (ji14))) = true := decide_eq_true c20
             clear c20
             simp only [Option.some.injEq, Prod.mk.injEq] at H
             obtain ⟨rfl, rfl, rfl⟩ := H
             have p11 : 0 ≤ ((ji8) : Int) := of_decide_eq_true (by first | (with_reducible assumption) | assumption)
             have q11 : (ji8) < (a0.size : Int) := of_decide_eq_true (by first | (with_reducible assumption) | assumption)
             have hx11 := bt_at a0 (ji8)
             replace p11 := eq_true p11
             replace q11 := eq_true q11
             go_wp2
             go_ret3
             exact ⟨by first | rfl | (simp; done) | (simp only [← hji6, ← hji8, ← hji12, ← hji14] <;> (first | rfl | simp)) | (simp [*]; done), by repeat (first | exact Drawn0.refl _ | apply Drawn0.step)⟩
            ·
             rw [if_neg c20] at H
             have c20b0 : decide (4611686018427387904 ≤ (Go.bits .or .i64 x7_2 (ji14))) = false := decide_eq_false c20
             clear c20
             by_cases c21 : (Go.bits .or .i64 x7_2 (ji14)) < 0
             ·
              rw [if_pos c21] at H
              have c21b0 : decide ((Go.bits .or .i64 x7_2 (ji14)) < 0) = true := decide_eq_true c21
              clear c21
              simp only [Option.some.injEq, Prod.mk.injEq] at H
              obtain ⟨rfl, rfl, rfl⟩ := H
              have p11 : 0 ≤ ((ji8) : Int) := of_decide_eq_true (by first | (with_reducible assumption) | assumption)
              have q11 : (ji8) < (a0.size : Int) := of_decide_eq_true (by first | (with_reducible assumption) | assumption)
              have hx11 := bt_at a0 (ji8)
              replace p11 := eq_true p11
              replace q11 := eq_true q11
              go_wp2
              go_ret3
              exact ⟨by first | rfl | (simp; done) | (simp only [← hji6, ← hji8, ← hji12, ← hji14] <;> (first | rfl | simp)) | (simp [*]; done), by repeat (first | exact Drawn0.refl _ | apply Drawn0.step)⟩
             ·
              rw [if_neg c21] at H
              have c21b0 : decide ((Go.bits .or .i64 x7_2 (ji14)) < 0) = false := decide_eq_false c21
              clear c21
              simp only [Option.some.injEq, Prod.mk.injEq] at H
              obtain ⟨rfl, rfl, rfl⟩ := H
              have p11 : 0 ≤ ((ji8) : Int) := of_decide_eq_true (by first | (with_reducible assumption) | assumption)
              have q11 : (ji8) < (a0.size : Int) := of_decide_eq_true (by first | (with_reducible assumption) | assumption)
              have hx11 := bt_at a0 (ji8)
              replace p11 := eq_true p11
              replace q11 := eq_true q11
              go_wp2
              go_ret3
              exact ⟨by first | rfl | (simp; done) | (simp only [← hji6, ← hji8, ← hji12, ← hji14] <;> (first | rfl | simp)) | (simp [*]; done), by repeat (first | exact Drawn0.refl _ | apply Drawn0.step)⟩
         ·
          rw [if_neg c13] at H
          exact absurd H (by simp)
        ·
         rw [if_neg c10] at H
         exact absurd H (by simp)
       ·
        rw [if_neg c9] at H
        exact absurd H (by simp)
      ·
       rw [if_neg c7] at H
       have c7b0 : decide (x23_2 < ji6) = false := decide_eq_false c7
       clear c7
       by_cases c22 : (wrap64 ((a0.size : Int) - a1)) < 9
       ·
        rw [if_pos c22] at H
        have c22b0 : decide ((wrap64 ((a0.size : Int) - a1)) < 9) = true := decide_eq_true c22
        clear c22
        simp only [Option.some.injEq, Prod.mk.injEq] at H
        obtain ⟨rfl, rfl, rfl⟩ := H
        go_wp2
        go_ret3
        exact ⟨by first | rfl | (simp; done) | (simp only [← hji6] <;> (first | rfl | simp)) | (simp [*]; done), by repeat (first | exact Drawn0.refl _ | apply Drawn0.step)⟩
       ·
        rw [if_neg c22] at H
        have c22b0 : decide ((wrap64 ((a0.size : Int) - a1)) < 9) = false := decide_eq_false c22
        clear c22
        simp only [Option.some.injEq, Prod.mk.injEq] at H
        obtain ⟨rfl, rfl, rfl⟩ := H
        go_wp2
        go_ret3
        exact ⟨by first | rfl | (simp; done) | (simp only [← hji6] <;> (first | rfl | simp)) | (simp [*]; done), by repeat (first | exact Drawn0.refl _ | apply Drawn0.step)⟩

/-! ### wire_Reader_Num: function 41 -/
def wire_Reader_Num.f (k : Nat) (s0_0 : ByteArray) (s0_1 : Int) (s0_2 : Int) (s0_3 : Int) : Option (Int × ByteArray × Int × Int × Int) := (wire_Reader_ok.f s0_0 s0_1 s0_2 s0_3).bind fun bt127 => (if bt127.1 = true then ((varint_Take.f k bt127.2.1 bt127.2.2.1).bind fun bt132 => (if bt132.2.2 = 0 then (some (bt132.1, bt127.2.1, bt132.2.1, bt127.2.2.2.1, bt127.2.2.2.2)) else ((wire_Reader_fail.f bt127.2.1 bt127.2.2.1 bt127.2.2.2.1 bt127.2.2.2.2 bt132.2.2 bt127.2.2.1).bind fun bt135 => (some (0, bt135.1, bt135.2.1, bt135.2.2.1, bt135.2.2.2))))) else (some (0, bt127.2.1, bt127.2.2.1, bt127.2.2.2.1, bt127.2.2.2.2)))
theorem wire_Reader_Num.mono : ∀ a0 a1 a2 a3 k, LeO (wire_Reader_Num.f k a0 a1 a2 a3) (wire_Reader_Num.f (k + 1) a0 a1 a2 a3) := by
 intro a0 a1 a2 a3 k
 unfold wire_Reader_Num.f
 repeat' first
   | (with_reducible exact varint_Take.mono _ _ _)
   | (with_reducible exact LeO.refl _)
   | (with_reducible exact LeO.none _)
   | (with_reducible refine LeO.ite ?_ ?_)
   | (with_reducible refine LeO.bind ?_ (fun _ => ?_))
   | exact varint_Take.mono _ _ _
   | exact LeO.none _
   | refine LeO.ite ?_ ?_
   | refine LeO.bind ?_ (fun _ => ?_)
set_option maxHeartbeats 8000000 in
set_option maxRecDepth 100000 in
theorem wire_Reader_Num.calls (k : Nat) (g : Nat) (s0_0 : ByteArray) (s0_1 : Int) (s0_2 : Int) (s0_3 : Int) (r1 : Int) (r2 : ByteArray) (r3 : Int) (r4 : Int) (r5 : Int) (w0 w : World) (hI : IsS58 w0 w g s0_0 s0_1 s0_2 s0_3) (hB : Below w0.heap.size w0 w) (h : wire_Reader_Num.f k s0_0 s0_1 s0_2 s0_3 = some (r1, r2, r3, r4, r5)) :
  Calls Try.prog 41 #[.pointer (some ⟨g, 0, none⟩)] w fun e w' => e = .returned (.int .i64 r1) ∧ IsS58 w0 w' g r2 r3 r4 r5 ∧ Below w0.heap.size w0 w' ∧ KeepBut w w' g none := by
 have HI0 := Am hI
 have HK := Am (KeepBut.refl w g none)
 have HL := Am hB.size
 clear hI
 have HW0 := Am hB.size
 have HB := Am hB
 clear hB
 have H : ((wire_Reader_ok.f s0_0 s0_1 s0_2 s0_3).bind fun bt127 => (if bt127.1 = true then ((varint_Take.f k bt127.2.1 bt127.2.2.1).bind fun bt132 => (if bt132.2.2 = 0 then (some (bt132.1, bt127.2.1, bt132.2.1, bt127.2.2.2.1, bt127.2.2.2.2)) else ((wire_Reader_fail.f bt127.2.1 bt127.2.2.1 bt127.2.2.2.1 bt127.2.2.2.2 bt132.2.2 bt127.2.2.1).bind fun bt135 => (some (0, bt135.1, bt135.2.1, bt135.2.2.1, bt135.2.2.2))))) else (some (0, bt127.2.1, bt127.2.2.1, bt127.2.2.2.1, bt127.2.2.2.2)))) = some (r1, r2, r3, r4, r5) := h
 clear h
 replace H := ob H
 obtain ⟨⟨t127, t128, t129, t130, t131⟩, A20, H⟩ := H
 replace H : (if t127 = true then ((varint_Take.f k t128 t129).bind fun bt132 => (if bt132.2.2 = 0 then (some (bt132.1, t128, bt132.2.1, t130, t131)) else ((wire_Reader_fail.f t128 t129 t130 t131 bt132.2.2 t129).bind fun bt135 => (some (0, bt135.1, bt135.2.1, bt135.2.2.1, bt135.2.2.2))))) else (some (0, t128, t129, t130, t131))) = some (r1, r2, r3, r4, r5) := H
 have A2 := Am A20
 clear A20
 by_cases c3 : t127 = true
 ·
  subst c3
  have H1 : ((varint_Take.f k t128 t129).bind fun bt132 => (if bt132.2.2 = 0 then (some (bt132.1, t128, bt132.2.1, t130, t131)) else ((wire_Reader_fail.f t128 t129 t130 t131 bt132.2.2 t129).bind fun bt135 => (some (0, bt135.1, bt135.2.1, bt135.2.2.1, bt135.2.2.2))))) = some (r1, r2, r3, r4, r5) := by rw [if_pos rfl] at H; exact H
  clear H
  have H := H1
  clear H1
  replace H := ob H
  obtain ⟨⟨t132, t133, t134⟩, A40, H⟩ := H
  replace H : (if t134 = 0 then (some (t132, t128, t133, t130, t131)) else ((wire_Reader_fail.f t128 t129 t130 t131 t134 t129).bind fun bt135 => (some (0, bt135.1, bt135.2.1, bt135.2.2.1, bt135.2.2.2)))) = some (r1, r2, r3, r4, r5) := H
  have A4 := Am A40
  clear A40
  by_cases c5 : t134 = 0
  ·
   rw [if_pos c5] at H
   have c5b0 : (t134 == 0) = true := beq_iff_eq.mpr c5
   have c5b1 : (t134 != 0) = false := bne_eq_false_iff_eq.mpr c5
   clear c5
   simp only [Option.some.injEq, Prod.mk.injEq] at H
   obtain ⟨rfl, rfl, rfl, rfl, rfl⟩ := H
   go_enter Try.func41, Try.ntmps41
   go_wp2_with (first | (go_at_call 51; (with_reducible refine (wire_Reader_ok.calls g s0_0 s0_1 s0_2 s0_3 true t128 t129 t130 t131 w0 _ ?side1 ?side2 A2.out).mono ?_); (case side1 => repeat (first | (with_reducible first | exact HI0.out | apply IsS58.alloc | apply IsS58.drewN | apply IsS58.drew | apply IsS58.set_0 | apply IsS58.set_1 | apply IsS58.set_2 | apply IsS58.set_3) | exact HI0.out)); (case side2 => repeat (first | (with_reducible first | exact HB.out | apply bl | apply pN | apply b1 | refine bs ?_ (IsS58.ge HI0.out)) | exact HB.out | exact HBo.out)); rintro e w6 ⟨rfl, hi, hb, hk⟩; have n0_ := Am (KeepBut.trans (by repeat (first | (with_reducible first | exact HK.out | apply KeepBut.set_ | apply keep_drewN | apply keep_drew | apply keep_alloc) | exact HK.out)) hk (.inl rfl)); have n1_ := Am (hb); have n2_ := Am (hi); clear HK; clear HB; clear HI0; have HK := n0_; have HB := n1_; have HI0 := n2_; clear n0_ n1_ n2_; (try clear hb); (try clear hb2); (try clear hk); (try clear hi); obtain ⟨HGz7, hgz7⟩ := HI0.out; have hcz7_0 := cellS58_0 HGz7; have hcz7_1 := cellS58_1 HGz7; have hcz7_2 := cellS58_2 HGz7; have hcz7_3 := cellS58_3 HGz7; have hfz7_0 := bf HGz7 0; have hfz7_1 := bf HGz7 1; have hfz7_2 := bf HGz7 2; have hfz7_3 := bf HGz7 3; clear HGz7 hgz7) | (go_at_call 52; (with_reducible refine (varint_Take.calls k t128 t129 t132 t133 t134 _ A4.out).mono ?_); rintro e w' ⟨rfl, ⟨nd, rfl⟩⟩; (try first | exact ⟨rfl, _, World.drewN_drewN _ _ _⟩ | exact ⟨rfl, _, Eq.trans (World.drewN_drewN _ _ _) (congrArg (World.drewN _) (Nat.add_assoc _ _ _))⟩)))
   repeat (go_quiet (first | (go_at_call 51; (with_reducible refine (wire_Reader_ok.calls g s0_0 s0_1 s0_2 s0_3 true t128 t129 t130 t131 w0 _ ?side1 ?side2 A2.out).mono ?_); (case side1 => repeat (first | (with_reducible first | exact HI0.out | apply IsS58.alloc | apply IsS58.drewN | apply IsS58.drew | apply IsS58.set_0 | apply IsS58.set_1 | apply IsS58.set_2 | apply IsS58.set_3) | exact HI0.out)); (case side2 => repeat (first | (with_reducible first | exact HB.out | apply bl | apply pN | apply b1 | refine bs ?_ (IsS58.ge HI0.out)) | exact HB.out | exact HBo.out)); rintro e w6 ⟨rfl, hi, hb, hk⟩; have n0_ := Am (KeepBut.trans (by repeat (first | (with_reducible first | exact HK.out | apply KeepBut.set_ | apply keep_drewN | apply keep_drew | apply keep_alloc) | exact HK.out)) hk (.inl rfl)); have n1_ := Am (hb); have n2_ := Am (hi); clear HK; clear HB; clear HI0; have HK := n0_; have HB := n1_; have HI0 := n2_; clear n0_ n1_ n2_; (try clear hb); (try clear hb2); (try clear hk); (try clear hi); obtain ⟨HGz7, hgz7⟩ := HI0.out; have hcz7_0 := cellS58_0 HGz7; have hcz7_1 := cellS58_1 HGz7; have hcz7_2 := cellS58_2 HGz7; have hcz7_3 := cellS58_3 HGz7; have hfz7_0 := bf HGz7 0; have hfz7_1 := bf HGz7 1; have hfz7_2 := bf HGz7 2; have hfz7_3 := bf HGz7 3; clear HGz7 hgz7) | (go_at_call 52; (with_reducible refine (varint_Take.calls k t128 t129 t132 t133 t134 _ A4.out).mono ?_); rintro e w' ⟨rfl, ⟨nd, rfl⟩⟩; (try first | exact ⟨rfl, _, World.drewN_drewN _ _ _⟩ | exact ⟨rfl, _, Eq.trans (World.drewN_drewN _ _ _) (congrArg (World.drewN _) (Nat.add_assoc _ _ _))⟩))); try go_wp2_with (first | (go_at_call 51; (with_reducible refine (wire_Reader_ok.calls g s0_0 s0_1 s0_2 s0_3 true t128 t129 t130 t131 w0 _ ?side1 ?side2 A2.out).mono ?_); (case side1 => repeat (first | (with_reducible first | exact HI0.out | apply IsS58.alloc | apply IsS58.drewN | apply IsS58.drew | apply IsS58.set_0 | apply IsS58.set_1 | apply IsS58.set_2 | apply IsS58.set_3) | exact HI0.out)); (case side2 => repeat (first | (with_reducible first | exact HB.out | apply bl | apply pN | apply b1 | refine bs ?_ (IsS58.ge HI0.out)) | exact HB.out | exact HBo.out)); rintro e w6 ⟨rfl, hi, hb, hk⟩; have n0_ := Am (KeepBut.trans (by repeat (first | (with_reducible first | exact HK.out | apply KeepBut.set_ | apply keep_drewN | apply keep_drew | apply keep_alloc) | exact HK.out)) hk (.inl rfl)); have n1_ := Am (hb); have n2_ := Am (hi); clear HK; clear HB; clear HI0; have HK := n0_; have HB := n1_; have HI0 := n2_; clear n0_ n1_ n2_; (try clear hb); (try clear hb2); (try clear hk); (try clear hi); obtain ⟨HGz7, hgz7⟩ := HI0.out; have hcz7_0 := cellS58_0 HGz7; have hcz7_1 := cellS58_1 HGz7; have hcz7_2 := cellS58_2 HGz7; have hcz7_3 := cellS58_3 HGz7; have hfz7_0 := bf HGz7 0; have hfz7_1 := bf HGz7 1; have hfz7_2 := bf HGz7 2; have hfz7_3 := bf HGz7 3; clear HGz7 hgz7) | (go_at_call 52; (with_reducible refine (varint_Take.calls k t128 t129 t132 t133 t134 _ A4.out).mono ?_); rintro e w' ⟨rfl, ⟨nd, rfl⟩⟩; (try first | exact ⟨rfl, _, World.drewN_drewN _ _ _⟩ | exact ⟨rfl, _, Eq.trans (World.drewN_drewN _ _ _) (congrArg (World.drewN _) (Nat.add_assoc _ _ _))⟩))))
   go_ret
   exact ⟨by first | rfl | (simp [errW_none, errW_some] <;> rfl) | (simp [*, errW_none, errW_some] <;> rfl) | (simp [Aid.ne_nil, Aid.eq_nil, errW_none, errW_some]; done), by repeat (first | (with_reducible first | exact HI0.out | apply IsS58.alloc | apply IsS58.drewN | apply IsS58.drew | apply IsS58.set_0 | apply IsS58.set_1 | apply IsS58.set_2 | apply IsS58.set_3) | exact HI0.out), by repeat (first | (with_reducible first | exact HB.out | apply bl | apply pN | apply b1 | refine bs ?_ (IsS58.ge HI0.out)) | exact HB.out | exact HBo.out), by repeat (first | (with_reducible first | exact HK.out | apply KeepBut.set_ | apply keep_drewN | apply keep_drew | apply keep_alloc) | exact HK.out)⟩
  ·
   rw [if_neg c5] at H
   have c5b0 : (t134 == 0) = false := beq_eq_false_iff_ne.mpr c5
   have c5b1 : (t134 != 0) = true := bne_iff_ne.mpr c5
   replace H := ob H
   obtain ⟨⟨t135, t136, t137, t138⟩, A80, H⟩ := H
   replace H : (some (0, t135, t136, t137, t138)) = some (r1, r2, r3, r4, r5) := H
   have A8 := Am A80
   clear A80
   simp only [Option.some.injEq, Prod.mk.injEq] at H
   obtain ⟨rfl, rfl, rfl, rfl, rfl⟩ := H
   go_enter Try.func41, Try.ntmps41
   go_wp2_with (first | (go_at_call 51; (with_reducible refine (wire_Reader_ok.calls g s0_0 s0_1 s0_2 s0_3 true t128 t129 t130 t131 w0 _ ?side1 ?side2 A2.out).mono ?_); (case side1 => repeat (first | (with_reducible first | exact HI0.out | apply IsS58.alloc | apply IsS58.drewN | apply IsS58.drew | apply IsS58.set_0 | apply IsS58.set_1 | apply IsS58.set_2 | apply IsS58.set_3) | exact HI0.out)); (case side2 => repeat (first | (with_reducible first | exact HB.out | apply bl | apply pN | apply b1 | refine bs ?_ (IsS58.ge HI0.out)) | exact HB.out | exact HBo.out)); rintro e w9 ⟨rfl, hi, hb, hk⟩; have n0_ := Am (KeepBut.trans (by repeat (first | (with_reducible first | exact HK.out | apply KeepBut.set_ | apply keep_drewN | apply keep_drew | apply keep_alloc) | exact HK.out)) hk (.inl rfl)); have n1_ := Am (hb); have n2_ := Am (hi); clear HK; clear HB; clear HI0; have HK := n0_; have HB := n1_; have HI0 := n2_; clear n0_ n1_ n2_; (try clear hb); (try clear hb2); (try clear hk); (try clear hi); obtain ⟨HGz10, hgz10⟩ := HI0.out; have hcz10_0 := cellS58_0 HGz10; have hcz10_1 := cellS58_1 HGz10; have hcz10_2 := cellS58_2 HGz10; have hcz10_3 := cellS58_3 HGz10; have hfz10_0 := bf HGz10 0; have hfz10_1 := bf HGz10 1; have hfz10_2 := bf HGz10 2; have hfz10_3 := bf HGz10 3; clear HGz10 hgz10) | (go_at_call 52; (with_reducible refine (varint_Take.calls k t128 t129 t132 t133 t134 _ A4.out).mono ?_); rintro e w' ⟨rfl, ⟨nd, rfl⟩⟩; (try first | exact ⟨rfl, _, World.drewN_drewN _ _ _⟩ | exact ⟨rfl, _, Eq.trans (World.drewN_drewN _ _ _) (congrArg (World.drewN _) (Nat.add_assoc _ _ _))⟩)) | (go_at_call 53; (with_reducible refine (wire_Reader_fail.calls g t128 t129 t130 t131 t134 t129 t135 t136 t137 t138 w0 _ ?side1 ?side2 A8.out).mono ?_); (case side1 => repeat (first | (with_reducible first | exact HI0.out | apply IsS58.alloc | apply IsS58.drewN | apply IsS58.drew | apply IsS58.set_0 | apply IsS58.set_1 | apply IsS58.set_2 | apply IsS58.set_3) | exact HI0.out)); (case side2 => repeat (first | (with_reducible first | exact HB.out | apply bl | apply pN | apply b1 | refine bs ?_ (IsS58.ge HI0.out)) | exact HB.out | exact HBo.out)); rintro e w11 ⟨rfl, hi, hb, hk⟩; have n0_ := Am (KeepBut.trans (by repeat (first | (with_reducible first | exact HK.out | apply KeepBut.set_ | apply keep_drewN | apply keep_drew | apply keep_alloc) | exact HK.out)) hk (.inl rfl)); have n1_ := Am (hb); have n2_ := Am (hi); clear HK; clear HB; clear HI0; have HK := n0_; have HB := n1_; have HI0 := n2_; clear n0_ n1_ n2_; (try clear hb); (try clear hb2); (try clear hk); (try clear hi)))
   repeat (go_quiet (first | (go_at_call 51; (with_reducible refine (wire_Reader_ok.calls g s0_0 s0_1 s0_2 s0_3 true t128 t129 t130 t131 w0 _ ?side1 ?side2 A2.out).mono ?_); (case side1 => repeat (first | (with_reducible first | exact HI0.out | apply IsS58.alloc | apply IsS58.drewN | apply IsS58.drew | apply IsS58.set_0 | apply IsS58.set_1 | apply IsS58.set_2 | apply IsS58.set_3) | exact HI0.out)); (case side2 => repeat (first | (with_reducible first | exact HB.out | apply bl | apply pN | apply b1 | refine bs ?_ (IsS58.ge HI0.out)) | exact HB.out | exact HBo.out)); rintro e w9 ⟨rfl, hi, hb, hk⟩; have n0_ := Am (KeepBut.trans (by repeat (first | (with_reducible first | exact HK.out | apply KeepBut.set_ | apply keep_drewN | apply keep_drew | apply keep_alloc) | exact HK.out)) hk (.inl rfl)); have n1_ := Am (hb); have n2_ := Am (hi); clear HK; clear HB; clear HI0; have HK := n0_; have HB := n1_; have HI0 := n2_; clear n0_ n1_ n2_; (try clear hb); (try clear hb2); (try clear hk); (try clear hi); obtain ⟨HGz10, hgz10⟩ := HI0.out; have hcz10_0 := cellS58_0 HGz10; have hcz10_1 := cellS58_1 HGz10; have hcz10_2 := cellS58_2 HGz10; have hcz10_3 := cellS58_3 HGz10; have hfz10_0 := bf HGz10 0; have hfz10_1 := bf HGz10 1; have hfz10_2 := bf HGz10 2; have hfz10_3 := bf HGz10 3; clear HGz10 hgz10) | (go_at_call 52; (with_reducible refine (varint_Take.calls k t128 t129 t132 t133 t134 _ A4.out).mono ?_); rintro e w' ⟨rfl, ⟨nd, rfl⟩⟩; (try first | exact ⟨rfl, _, World.drewN_drewN _ _ _⟩ | exact ⟨rfl, _, Eq.trans (World.drewN_drewN _ _ _) (congrArg (World.drewN _) (Nat.add_assoc _ _ _))⟩)) | (go_at_call 53; (with_reducible refine (wire_Reader_fail.calls g t128 t129 t130 t131 t134 t129 t135 t136 t137 t138 w0 _ ?side1 ?side2 A8.out).mono ?_); (case side1 => repeat (first | (with_reducible first | exact HI0.out | apply IsS58.alloc | apply IsS58.drewN | apply IsS58.drew | apply IsS58.set_0 | apply IsS58.set_1 | apply IsS58.set_2 | apply IsS58.set_3) | exact HI0.out)); (case side2 => repeat (first | (with_reducible first | exact HB.out | apply bl | apply pN | apply b1 | refine bs ?_ (IsS58.ge HI0.out)) | exact HB.out | exact HBo.out)); rintro e w11 ⟨rfl, hi, hb, hk⟩; have n0_ := Am (KeepBut.trans (by repeat (first | (with_reducible first | exact HK.out | apply KeepBut.set_ | apply keep_drewN | apply keep_drew | apply keep_alloc) | exact HK.out)) hk (.inl rfl)); have n1_ := Am (hb); have n2_ := Am (hi); clear HK; clear HB; clear HI0; have HK := n0_; have HB := n1_; have HI0 := n2_; clear n0_ n1_ n2_; (try clear hb); (try clear hb2); (try clear hk); (try clear hi))); try go_wp2_with (first | (go_at_call 51; (with_reducible refine (wire_Reader_ok.calls g s0_0 s0_1 s0_2 s0_3 true t128 t129 t130 t131 w0 _ ?side1 ?side2 A2.out).mono ?_); (case side1 => repeat (first | (with_reducible first | exact HI0.out | apply IsS58.alloc | apply IsS58.drewN | apply IsS58.drew | apply IsS58.set_0 | apply IsS58.set_1 | apply IsS58.set_2 | apply IsS58.set_3) | exact HI0.out)); (case side2 => repeat (first | (with_reducible first | exact HB.out | apply bl | apply pN | apply b1 | refine bs ?_ (IsS58.ge HI0.out)) | exact HB.out | exact HBo.out)); rintro e w9 ⟨rfl, hi, hb, hk⟩; have n0_ := Am (KeepBut.trans (by repeat (first | (with_reducible first | exact HK.out | apply KeepBut.set_ | apply keep_drewN | apply keep_drew | apply keep_alloc) | exact HK.out)) hk (.inl rfl)); have n1_ := Am (hb); have n2_ := Am (hi); clear HK; clear HB; clear HI0; have HK := n0_; have HB := n1_; have HI0 := n2_; clear n0_ n1_ n2_; (try clear hb); (try clear hb2); (try clear hk); (try clear hi); obtain ⟨HGz10, hgz10⟩ := HI0.out; have hcz10_0 := cellS58_0 HGz10; have hcz10_1 := cellS58_1 HGz10; have hcz10_2 := cellS58_2 HGz10; have hcz10_3 := cellS58_3 HGz10; have hfz10_0 := bf HGz10 0; have hfz10_1 := bf HGz10 1; have hfz10_2 := bf HGz10 2; have hfz10_3 := bf HGz10 3; clear HGz10 hgz10) | (go_at_call 52; (with_reducible refine (varint_Take.calls k t128 t129 t132 t133 t134 _ A4.out).mono ?_); rintro e w' ⟨rfl, ⟨nd, rfl⟩⟩; (try first | exact ⟨rfl, _, World.drewN_drewN _ _ _⟩ | exact ⟨rfl, _, Eq.trans (World.drewN_drewN _ _ _) (congrArg (World.drewN _) (Nat.add_assoc _ _ _))⟩)) | (go_at_call 53; (with_reducible refine (wire_Reader_fail.calls g t128 t129 t130 t131 t134 t129 t135 t136 t137 t138 w0 _ ?side1 ?side2 A8.out).mono ?_); (case side1 => repeat (first | (with_reducible first | exact HI0.out | apply IsS58.alloc | apply IsS58.drewN | apply IsS58.drew | apply IsS58.set_0 | apply IsS58.set_1 | apply IsS58.set_2 | apply IsS58.set_3) | exact HI0.out)); (case side2 => repeat (first | (with_reducible first | exact HB.out | apply bl | apply pN | apply b1 | refine bs ?_ (IsS58.ge HI0.out)) | exact HB.out | exact HBo.out)); rintro e w11 ⟨rfl, hi, hb, hk⟩; have n0_ := Am (KeepBut.trans (by repeat (first | (with_reducible first | exact HK.out | apply KeepBut.set_ | apply keep_drewN | apply keep_drew | apply keep_alloc) | exact HK.out)) hk (.inl rfl)); have n1_ := Am (hb); have n2_ := Am (hi); clear HK; clear HB; clear HI0; have HK := n0_; have HB := n1_; have HI0 := n2_; clear n0_ n1_ n2_; (try clear hb); (try clear hb2); (try clear hk); (try clear hi))))
   go_ret
   exact ⟨by first | rfl | (simp [errW_none, errW_some] <;> rfl) | (simp [*, errW_none, errW_some] <;> rfl) | (simp [Aid.ne_nil, Aid.eq_nil, errW_none, errW_some]; done), by repeat (first | (with_reducible first | exact HI0.out | apply IsS58.alloc | apply IsS58.drewN | apply IsS58.drew | apply IsS58.set_0 | apply IsS58.set_1 | apply IsS58.set_2 | apply IsS58.set_3) | exact HI0.out), by repeat (first | (with_reducible first | exact HB.out | apply bl | apply pN | apply b1 | refine bs ?_ (IsS58.ge HI0.out)) | exact HB.out | exact HBo.out), by repeat (first | (with_reducible first | exact HK.out | apply KeepBut.set_ | apply keep_drewN | apply keep_drew | apply keep_alloc) | exact HK.out)⟩
 ·
  replace c3 := Bool.eq_false_iff.mpr c3
  subst c3
  have H1 : (some (0, t128, t129, t130, t131)) = some (r1, r2, r3, r4, r5) := by rw [if_neg (show ¬ (false = true) by decide)] at H; exact H
  clear H
  have H := H1
  clear H1
  simp only [Option.some.injEq, Prod.mk.injEq] at H
  obtain ⟨rfl, rfl, rfl, rfl, rfl⟩ := H
  go_enter Try.func41, Try.ntmps41
  go_wp2_with (first | (go_at_call 51; (with_reducible refine (wire_Reader_ok.calls g s0_0 s0_1 s0_2 s0_3 false t128 t129 t130 t131 w0 _ ?side1 ?side2 A2.out).mono ?_); (case side1 => repeat (first | (with_reducible first | exact HI0.out | apply IsS58.alloc | apply IsS58.drewN | apply IsS58.drew | apply IsS58.set_0 | apply IsS58.set_1 | apply IsS58.set_2 | apply IsS58.set_3) | exact HI0.out)); (case side2 => repeat (first | (with_reducible first | exact HB.out | apply bl | apply pN | apply b1 | refine bs ?_ (IsS58.ge HI0.out)) | exact HB.out | exact HBo.out)); rintro e w12 ⟨rfl, hi, hb, hk⟩; have n0_ := Am (KeepBut.trans (by repeat (first | (with_reducible first | exact HK.out | apply KeepBut.set_ | apply keep_drewN | apply keep_drew | apply keep_alloc) | exact HK.out)) hk (.inl rfl)); have n1_ := Am (hb); have n2_ := Am (hi); clear HK; clear HB; clear HI0; have HK := n0_; have HB := n1_; have HI0 := n2_; clear n0_ n1_ n2_; (try clear hb); (try clear hb2); (try clear hk); (try clear hi)))
  repeat (go_quiet (first | (go_at_call 51; (with_reducible refine (wire_Reader_ok.calls g s0_0 s0_1 s0_2 s0_3 false t128 t129 t130 t131 w0 _ ?side1 ?side2 A2.out).mono ?_); (case side1 => repeat (first | (with_reducible first | exact HI0.out | apply IsS58.alloc | apply IsS58.drewN | apply IsS58.drew | apply IsS58.set_0 | apply IsS58.set_1 | apply IsS58.set_2 | apply IsS58.set_3) | exact HI0.out)); (case side2 => repeat (first | (with_reducible first | exact HB.out | apply bl | apply pN | apply b1 | refine bs ?_ (IsS58.ge HI0.out)) | exact HB.out | exact HBo.out)); rintro e w12 ⟨rfl, hi, hb, hk⟩; have n0_ := Am (KeepBut.trans (by repeat (first | (with_reducible first | exact HK.out | apply KeepBut.set_ | apply keep_drewN | apply keep_drew | apply keep_alloc) | exact HK.out)) hk (.inl rfl)); have n1_ := Am (hb); have n2_ := Am (hi); clear HK; clear HB; clear HI0; have HK := n0_; have HB := n1_; have HI0 := n2_; clear n0_ n1_ n2_; (try clear hb); (try clear hb2); (try clear hk); (try clear hi))); try go_wp2_with (first | (go_at_call 51; (with_reducible refine (wire_Reader_ok.calls g s0_0 s0_1 s0_2 s0_3 false t128 t129 t130 t131 w0 _ ?side1 ?side2 A2.out).mono ?_); (case side1 => repeat (first | (with_reducible first | exact HI0.out | apply IsS58.alloc | apply IsS58.drewN | apply IsS58.drew | apply IsS58.set_0 | apply IsS58.set_1 | apply IsS58.set_2 | apply IsS58.set_3) | exact HI0.out)); (case side2 => repeat (first | (with_reducible first | exact HB.out | apply bl | apply pN | apply b1 | refine bs ?_ (IsS58.ge HI0.out)) | exact HB.out | exact HBo.out)); rintro e w12 ⟨rfl, hi, hb, hk⟩; have n0_ := Am (KeepBut.trans (by repeat (first | (with_reducible first | exact HK.out | apply KeepBut.set_ | apply keep_drewN | apply keep_drew | apply keep_alloc) | exact HK.out)) hk (.inl rfl)); have n1_ := Am (hb); have n2_ := Am (hi); clear HK; clear HB; clear HI0; have HK := n0_; have HB := n1_; have HI0 := n2_; clear n0_ n1_ n2_; (try clear hb); (try clear hb2); (try clear hk); (try clear hi))))
  go_ret
  exact ⟨by first | rfl | (simp [errW_none, errW_some] <;> rfl) | (simp [*, errW_none, errW_some] <;> rfl) | (simp [Aid.ne_nil, Aid.eq_nil, errW_none, errW_some]; done), by repeat (first | (with_reducible first | exact HI0.out | apply IsS58.alloc | apply IsS58.drewN | apply IsS58.drew | apply IsS58.set_0 | apply IsS58.set_1 | apply IsS58.set_2 | apply IsS58.set_3) | exact HI0.out), by repeat (first | (with_reducible first | exact HB.out | apply bl | apply pN | apply b1 | refine bs ?_ (IsS58.ge HI0.out)) | exact HB.out | exact HBo.out), by repeat (first | (with_reducible first | exact HK.out | apply KeepBut.set_ | apply keep_drewN | apply keep_drew | apply keep_alloc) | exact HK.out)⟩

/-! ### wire_Reader_Text: function 42 -/
def wire_Reader_Text.f (k : Nat) (s0_0 : ByteArray) (s0_1 : Int) (s0_2 : Int) (s0_3 : Int) : Option (ByteArray × ByteArray × Int × Int × Int) := (wire_Reader_ok.f s0_0 s0_1 s0_2 s0_3).bind fun bt139 => (if bt139.1 = true then ((wire_Reader_Num.f k bt139.2.1 bt139.2.2.1 bt139.2.2.2.1 bt139.2.2.2.2).bind fun bt144 => ((wire_Reader_ok.f bt144.2.1 bt144.2.2.1 bt144.2.2.2.1 bt144.2.2.2.2).bind fun bt149 => (if bt149.1 = true then ((wire_Reader_take.f bt149.2.1 bt149.2.2.1 bt149.2.2.2.1 bt149.2.2.2.2 bt144.1 bt139.2.2.1).bind fun bt154 => (some (bt154.1, bt154.2.1, bt154.2.2.1, bt154.2.2.2.1, bt154.2.2.2.2))) else (some ((⟨#[]⟩ : ByteArray), bt149.2.1, bt149.2.2.1, bt149.2.2.2.1, bt149.2.2.2.2))))) else (some ((⟨#[]⟩ : ByteArray), bt139.2.1, bt139.2.2.1, bt139.2.2.2.1, bt139.2.2.2.2)))
theorem wire_Reader_Text.mono : ∀ a0 a1 a2 a3 k, LeO (wire_Reader_Text.f k a0 a1 a2 a3) (wire_Reader_Text.f (k + 1) a0 a1 a2 a3) := by
 intro a0 a1 a2 a3 k
 unfold wire_Reader_Text.f
 repeat' first
   | (with_reducible exact wire_Reader_Num.mono _ _ _ _ _)
   | (with_reducible exact LeO.refl _)
   | (with_reducible exact LeO.none _)
   | (with_reducible refine LeO.ite ?_ ?_)
   | (with_reducible refine LeO.bind ?_ (fun _ => ?_))
   | exact wire_Reader_Num.mono _ _ _ _ _
   | exact LeO.none _
   | refine LeO.ite ?_ ?_
   | refine LeO.bind ?_ (fun _ => ?_)
set_option maxHeartbeats 8000000 in
set_option maxRecDepth 100000 in
theorem wire_Reader_Text.calls (k : Nat) (g : Nat) (s0_0 : ByteArray) (s0_1 : Int) (s0_2 : Int) (s0_3 : Int) (r1 : ByteArray) (r2 : ByteArray) (r3 : Int) (r4 : Int) (r5 : Int) (w0 w : World) (hI : IsS58 w0 w g s0_0 s0_1 s0_2 s0_3) (hB : Below w0.heap.size w0 w) (h : wire_Reader_Text.f k s0_0 s0_1 s0_2 s0_3 = some (r1, r2, r3, r4, r5)) :
  Calls Try.prog 42 #[.pointer (some ⟨g, 0, none⟩)] w fun e w' => e = .returned (.string r1) ∧ IsS58 w0 w' g r2 r3 r4 r5 ∧ Below w0.heap.size w0 w' ∧ KeepBut w w' g none := by
 have HI0 := Am hI
 have HK := Am (KeepBut.refl w g none)
 have HL := Am hB.size
 clear hI
 have HW0 := Am hB.size
 have HB := Am hB
 clear hB
 have H : ((wire_Reader_ok.f s0_0 s0_1 s0_2 s0_3).bind fun bt139 => (if bt139.1 = true then ((wire_Reader_Num.f k bt139.2.1 bt139.2.2.1 bt139.2.2.2.1 bt139.2.2.2.2).bind fun bt144 => ((wire_Reader_ok.f bt144.2.1 bt144.2.2.1 bt144.2.2.2.1 bt144.2.2.2.2).bind fun bt149 => (if bt149.1 = true then ((wire_Reader_take.f bt149.2.1 bt149.2.2.1 bt149.2.2.2.1 bt149.2.2.2.2 bt144.1 bt139.2.2.1).bind fun bt154 => (some (bt154.1, bt154.2.1, bt154.2.2.1, bt154.2.2.2.1, bt154.2.2.2.2))) else (some ((⟨#[]⟩ : ByteArray), bt149.2.1, bt149.2.2.1, bt149.2.2.2.1, bt149.2.2.2.2))))) else (some ((⟨#[]⟩ : ByteArray), bt139.2.1, bt139.2.2.1, bt139.2.2.2.1, bt139.2.2.2.2)))) = some (r1, r2, r3, r4, r5) := h
 clear h
 replace H := ob H
 obtain ⟨⟨t139, t140, t141, t142, t143⟩, A20, H⟩ := H
 replace H : (if t139 = true then ((wire_Reader_Num.f k t140 t141 t142 t143).bind fun bt144 => ((wire_Reader_ok.f bt144.2.1 bt144.2.2.1 bt144.2.2.2.1 bt144.2.2.2.2).bind fun bt149 => (if bt149.1 = true then ((wire_Reader_take.f bt149.2.1 bt149.2.2.1 bt149.2.2.2.1 bt149.2.2.2.2 bt144.1 t141).bind fun bt154 => (some (bt154.1, bt154.2.1, bt154.2.2.1, bt154.2.2.2.1, bt154.2.2.2.2))) else (some ((⟨#[]⟩ : ByteArray), bt149.2.1, bt149.2.2.1, bt149.2.2.2.1, bt149.2.2.2.2))))) else (some ((⟨#[]⟩ : ByteArray), t140, t141, t142, t143))) = some (r1, r2, r3, r4, r5) := H
 have A2 := Am A20
 clear A20
 by_cases c3 : t139 = true
 ·
  subst c3
  have H1 : ((wire_Reader_Num.f k t140 t141 t142 t143).bind fun bt144 => ((wire_Reader_ok.f bt144.2.1 bt144.2.2.1 bt144.2.2.2.1 bt144.2.2.2.2).bind fun bt149 => (if bt149.1 = true then ((wire_Reader_take.f bt149.2.1 bt149.2.2.1 bt149.2.2.2.1 bt149.2.2.2.2 bt144.1 t141).bind fun bt154 => (some (bt154.1, bt154.2.1, bt154.2.2.1, bt154.2.2.2.1, bt154.2.2.2.2))) else (some ((⟨#[]⟩ : ByteArray), bt149.2.1, bt149.2.2.1, bt149.2.2.2.1, bt149.2.2.2.2))))) = some (r1, r2, r3, r4, r5) := by rw [if_pos rfl] at H; exact H
  clear H
  have H := H1
  clear H1
  replace H := ob H
  obtain ⟨⟨t144, t145, t146, t147, t148⟩, A40, H⟩ := H
  replace H : ((wire_Reader_ok.f t145 t146 t147 t148).bind fun bt149 => (if bt149.1 = true then ((wire_Reader_take.f bt149.2.1 bt149.2.2.1 bt149.2.2.2.1 bt149.2.2.2.2 t144 t141).bind fun bt154 => (some (bt154.1, bt154.2.1, bt154.2.2.1, bt154.2.2.2.1, bt154.2.2.2.2))) else (some ((⟨#[]⟩ : ByteArray), bt149.2.1, bt149.2.2.1, bt149.2.2.2.1, bt149.2.2.2.2)))) = some (r1, r2, r3, r4, r5) := H
  have A4 := Am A40
  clear A40
  replace H := ob H
  obtain ⟨⟨t149, t150, t151, t152, t153⟩, A50, H⟩ := H
  replace H : (if t149 = true then ((wire_Reader_take.f t150 t151 t152 t153 t144 t141).bind fun bt154 => (some (bt154.1, bt154.2.1, bt154.2.2.1, bt154.2.2.2.1, bt154.2.2.2.2))) else (some ((⟨#[]⟩ : ByteArray), t150, t151, t152, t153))) = some (r1, r2, r3, r4, r5) := H
  have A5 := Am A50
  clear A50
  by_cases c6 : t149 = true
  ·
   subst c6
   have H1 : ((wire_Reader_take.f t150 t151 t152 t153 t144 t141).bind fun bt154 => (some (bt154.1, bt154.2.1, bt154.2.2.1, bt154.2.2.2.1, bt154.2.2.2.2))) = some (r1, r2, r3, r4, r5) := by rw [if_pos rfl] at H; exact H
   clear H
   have H := H1
   clear H1
   replace H := ob H
   obtain ⟨⟨t154, t155, t156, t157, t158⟩, A70, H⟩ := H
   replace H : (some (t154, t155, t156, t157, t158)) = some (r1, r2, r3, r4, r5) := H
   have A7 := Am A70
   clear A70
   simp only [Option.some.injEq, Prod.mk.injEq] at H
   obtain ⟨rfl, rfl, rfl, rfl, rfl⟩ := H
   go_enter Try.func42, Try.ntmps42
   go_wp2_with (first | ((with_reducible refine gate_callee (f := 51) rfl ?_); refine goesL_ (some 6) rfl rfl Try.func51 (by kernel_rfl) rfl #[.pointer (some ⟨g, 0, none⟩)] rfl (by (try simp only [List.map_toArray, List.map_cons, List.map_nil]); first | done | rfl | (simp only [List.length_drop, List.length_take]; rfl)) ?_; (with_reducible refine (wire_Reader_ok.calls g s0_0 s0_1 s0_2 s0_3 true t140 t141 t142 t143 w0 _ ?side1 ?side2 A2.out).mono ?_); (case side1 => repeat (first | (with_reducible first | exact HI0.out | apply IsS58.alloc | apply IsS58.drewN | apply IsS58.drew | apply IsS58.set_0 | apply IsS58.set_1 | apply IsS58.set_2 | apply IsS58.set_3) | exact HI0.out)); (case side2 => repeat (first | (with_reducible first | exact HB.out | apply bl | apply pN | apply b1 | refine bs ?_ (IsS58.ge HI0.out)) | exact HB.out | exact HBo.out)); rintro e w8 ⟨rfl, hi, hb, hk⟩; refine ⟨_, rfl, ?_⟩; have n0_ := Am (KeepBut.trans (by repeat (first | (with_reducible first | exact HK.out | apply KeepBut.set_ | apply keep_drewN | apply keep_drew | apply keep_alloc) | exact HK.out)) hk (.inl rfl)); have n1_ := Am (hb); have n2_ := Am (hi); clear HK; clear HB; clear HI0; have HK := n0_; have HB := n1_; have HI0 := n2_; clear n0_ n1_ n2_; (try clear hb); (try clear hb2); (try clear hk); (try clear hi); obtain ⟨HGz9, hgz9⟩ := HI0.out; have hcz9_0 := cellS58_0 HGz9; have hcz9_1 := cellS58_1 HGz9; have hcz9_2 := cellS58_2 HGz9; have hcz9_3 := cellS58_3 HGz9; have hfz9_0 := bf HGz9 0; have hfz9_1 := bf HGz9 1; have hfz9_2 := bf HGz9 2; have hfz9_3 := bf HGz9 3; clear HGz9 hgz9) | ((with_reducible refine gate_callee (f := 41) rfl ?_); refine goesL_ (some 13) rfl rfl Try.func41 (by kernel_rfl) rfl #[.pointer (some ⟨g, 0, none⟩)] rfl (by (try simp only [List.map_toArray, List.map_cons, List.map_nil]); first | done | rfl | (simp only [List.length_drop, List.length_take]; rfl)) ?_; (with_reducible refine (wire_Reader_Num.calls k g t140 t141 t142 t143 t144 t145 t146 t147 t148 w0 _ ?side1 ?side2 A4.out).mono ?_); (case side1 => repeat (first | (with_reducible first | exact HI0.out | apply IsS58.alloc | apply IsS58.drewN | apply IsS58.drew | apply IsS58.set_0 | apply IsS58.set_1 | apply IsS58.set_2 | apply IsS58.set_3) | exact HI0.out)); (case side2 => repeat (first | (with_reducible first | exact HB.out | apply bl | apply pN | apply b1 | refine bs ?_ (IsS58.ge HI0.out)) | exact HB.out | exact HBo.out)); rintro e w10 ⟨rfl, hi, hb, hk⟩; refine ⟨_, rfl, ?_⟩; have n0_ := Am (KeepBut.trans (by repeat (first | (with_reducible first | exact HK.out | apply KeepBut.set_ | apply keep_drewN | apply keep_drew | apply keep_alloc) | exact HK.out)) hk (.inl rfl)); have n1_ := Am (hb); have n2_ := Am (hi); clear HK; clear HB; clear HI0; have HK := n0_; have HB := n1_; have HI0 := n2_; clear n0_ n1_ n2_; (try clear hb); (try clear hb2); (try clear hk); (try clear hi)) | ((with_reducible refine gate_callee (f := 51) rfl ?_); refine goesL_ (some 15) rfl rfl Try.func51 (by kernel_rfl) rfl #[.pointer (some ⟨g, 0, none⟩)] rfl (by (try simp only [List.map_toArray, List.map_cons, List.map_nil]); first | done | rfl | (simp only [List.length_drop, List.length_take]; rfl)) ?_; (with_reducible refine (wire_Reader_ok.calls g t145 t146 t147 t148 true t150 t151 t152 t153 w0 _ ?side1 ?side2 A5.out).mono ?_); (case side1 => repeat (first | (with_reducible first | exact HI0.out | apply IsS58.alloc | apply IsS58.drewN | apply IsS58.drew | apply IsS58.set_0 | apply IsS58.set_1 | apply IsS58.set_2 | apply IsS58.set_3) | exact HI0.out)); (case side2 => repeat (first | (with_reducible first | exact HB.out | apply bl | apply pN | apply b1 | refine bs ?_ (IsS58.ge HI0.out)) | exact HB.out | exact HBo.out)); rintro e w11 ⟨rfl, hi, hb, hk⟩; refine ⟨_, rfl, ?_⟩; have n0_ := Am (KeepBut.trans (by repeat (first | (with_reducible first | exact HK.out | apply KeepBut.set_ | apply keep_drewN | apply keep_drew | apply keep_alloc) | exact HK.out)) hk (.inl rfl)); have n1_ := Am (hb); have n2_ := Am (hi); clear HK; clear HB; clear HI0; have HK := n0_; have HB := n1_; have HI0 := n2_; clear n0_ n1_ n2_; (try clear hb); (try clear hb2); (try clear hk); (try clear hi)) | ((with_reducible refine gate_callee (f := 54) rfl ?_); refine goesL_ (some 20) rfl rfl Try.func54 (by kernel_rfl) rfl #[.pointer (some ⟨g, 0, none⟩), .int .i64 t144, .int .i64 t141] rfl (by (try simp only [List.map_toArray, List.map_cons, List.map_nil]); first | done | rfl | (simp only [List.length_drop, List.length_take]; rfl)) ?_; (with_reducible refine (wire_Reader_take.calls g t150 t151 t152 t153 t144 t141 t154 t155 t156 t157 t158 w0 _ ?side1 ?side2 A7.out).mono ?_); (case side1 => repeat (first | (with_reducible first | exact HI0.out | apply IsS58.alloc | apply IsS58.drewN | apply IsS58.drew | apply IsS58.set_0 | apply IsS58.set_1 | apply IsS58.set_2 | apply IsS58.set_3) | exact HI0.out)); (case side2 => repeat (first | (with_reducible first | exact HB.out | apply bl | apply pN | apply b1 | refine bs ?_ (IsS58.ge HI0.out)) | exact HB.out | exact HBo.out)); rintro e w12 ⟨rfl, hi, hb, hk⟩; refine ⟨_, rfl, ?_⟩; have n0_ := Am (KeepBut.trans (by repeat (first | (with_reducible first | exact HK.out | apply KeepBut.set_ | apply keep_drewN | apply keep_drew | apply keep_alloc) | exact HK.out)) hk (.inl rfl)); have n1_ := Am (hb); have n2_ := Am (hi); clear HK; clear HB; clear HI0; have HK := n0_; have HB := n1_; have HI0 := n2_; clear n0_ n1_ n2_; (try clear hb); (try clear hb2); (try clear hk); (try clear hi)))
   go_ret
   exact ⟨by first | rfl | (simp [errW_none, errW_some] <;> rfl) | (simp [*, errW_none, errW_some] <;> rfl) | (simp [Aid.ne_nil, Aid.eq_nil, errW_none, errW_some]; done), by repeat (first | (with_reducible first | exact HI0.out | apply IsS58.alloc | apply IsS58.drewN | apply IsS58.drew | apply IsS58.set_0 | apply IsS58.set_1 | apply IsS58.set_2 | apply IsS58.set_3) | exact HI0.out), by repeat (first | (with_reducible first | exact HB.out | apply bl | apply pN | apply b1 | refine bs ?_ (IsS58.ge HI0.out)) | exact HB.out | exact HBo.out), by repeat (first | (with_reducible first | exact HK.out | apply KeepBut.set_ | apply keep_drewN | apply keep_drew | apply keep_alloc) | exact HK.out)⟩
  ·
   replace c6 := Bool.eq_false_iff.mpr c6
   subst c6
   have H1 : (some ((⟨#[]⟩ : ByteArray), t150, t151, t152, t153)) = some (r1, r2, r3, r4, r5) := by rw [if_neg (show ¬ (false = true) by decide)] at H; exact H
   clear H
   have H := H1
   clear H1
   simp only [Option.some.injEq, Prod.mk.injEq] at H
   obtain ⟨rfl, rfl, rfl, rfl, rfl⟩ := H
   go_enter Try.func42, Try.ntmps42
   go_wp2_with (first | ((with_reducible refine gate_callee (f := 51) rfl ?_); refine goesL_ (some 6) rfl rfl Try.func51 (by kernel_rfl) rfl #[.pointer (some ⟨g, 0, none⟩)] rfl (by (try simp only [List.map_toArray, List.map_cons, List.map_nil]); first | done | rfl | (simp only [List.length_drop, List.length_take]; rfl)) ?_; (with_reducible refine (wire_Reader_ok.calls g s0_0 s0_1 s0_2 s0_3 true t140 t141 t142 t143 w0 _ ?side1 ?side2 A2.out).mono ?_); (case side1 => repeat (first | (with_reducible first | exact HI0.out | apply IsS58.alloc | apply IsS58.drewN | apply IsS58.drew | apply IsS58.set_0 | apply IsS58.set_1 | apply IsS58.set_2 | apply IsS58.set_3) | exact HI0.out)); (case side2 => repeat (first | (with_reducible first | exact HB.out | apply bl | apply pN | apply b1 | refine bs ?_ (IsS58.ge HI0.out)) | exact HB.out | exact HBo.out)); rintro e w13 ⟨rfl, hi, hb, hk⟩; refine ⟨_, rfl, ?_⟩; have n0_ := Am (KeepBut.trans (by repeat (first | (with_reducible first | exact HK.out | apply KeepBut.set_ | apply keep_drewN | apply keep_drew | apply keep_alloc) | exact HK.out)) hk (.inl rfl)); have n1_ := Am (hb); have n2_ := Am (hi); clear HK; clear HB; clear HI0; have HK := n0_; have HB := n1_; have HI0 := n2_; clear n0_ n1_ n2_; (try clear hb); (try clear hb2); (try clear hk); (try clear hi); obtain ⟨HGz14, hgz14⟩ := HI0.out; have hcz14_0 := cellS58_0 HGz14; have hcz14_1 := cellS58_1 HGz14; have hcz14_2 := cellS58_2 HGz14; have hcz14_3 := cellS58_3 HGz14; have hfz14_0 := bf HGz14 0; have hfz14_1 := bf HGz14 1; have hfz14_2 := bf HGz14 2; have hfz14_3 := bf HGz14 3; clear HGz14 hgz14) | ((with_reducible refine gate_callee (f := 41) rfl ?_); refine goesL_ (some 13) rfl rfl Try.func41 (by kernel_rfl) rfl #[.pointer (some ⟨g, 0, none⟩)] rfl (by (try simp only [List.map_toArray, List.map_cons, List.map_nil]); first | done | rfl | (simp only [List.length_drop, List.length_take]; rfl)) ?_; (with_reducible refine (wire_Reader_Num.calls k g t140 t141 t142 t143 t144 t145 t146 t147 t148 w0 _ ?side1 ?side2 A4.out).mono ?_); (case side1 => repeat (first | (with_reducible first | exact HI0.out | apply IsS58.alloc | apply IsS58.drewN | apply IsS58.drew | apply IsS58.set_0 | apply IsS58.set_1 | apply IsS58.set_2 | apply IsS58.set_3) | exact HI0.out)); (case side2 => repeat (first | (with_reducible first | exact HB.out | apply bl | apply pN | apply b1 | refine bs ?_ (IsS58.ge HI0.out)) | exact HB.out | exact HBo.out)); rintro e w15 ⟨rfl, hi, hb, hk⟩; refine ⟨_, rfl, ?_⟩; have n0_ := Am (KeepBut.trans (by repeat (first | (with_reducible first | exact HK.out | apply KeepBut.set_ | apply keep_drewN | apply keep_drew | apply keep_alloc) | exact HK.out)) hk (.inl rfl)); have n1_ := Am (hb); have n2_ := Am (hi); clear HK; clear HB; clear HI0; have HK := n0_; have HB := n1_; have HI0 := n2_; clear n0_ n1_ n2_; (try clear hb); (try clear hb2); (try clear hk); (try clear hi)) | ((with_reducible refine gate_callee (f := 51) rfl ?_); refine goesL_ (some 15) rfl rfl Try.func51 (by kernel_rfl) rfl #[.pointer (some ⟨g, 0, none⟩)] rfl (by (try simp only [List.map_toArray, List.map_cons, List.map_nil]); first | done | rfl | (simp only [List.length_drop, List.length_take]; rfl)) ?_; (with_reducible refine (wire_Reader_ok.calls g t145 t146 t147 t148 false t150 t151 t152 t153 w0 _ ?side1 ?side2 A5.out).mono ?_); (case side1 => repeat (first | (with_reducible first | exact HI0.out | apply IsS58.alloc | apply IsS58.drewN | apply IsS58.drew | apply IsS58.set_0 | apply IsS58.set_1 | apply IsS58.set_2 | apply IsS58.set_3) | exact HI0.out)); (case side2 => repeat (first | (with_reducible first | exact HB.out | apply bl | apply pN | apply b1 | refine bs ?_ (IsS58.ge HI0.out)) | exact HB.out | exact HBo.out)); rintro e w16 ⟨rfl, hi, hb, hk⟩; refine ⟨_, rfl, ?_⟩; have n0_ := Am (KeepBut.trans (by repeat (first | (with_reducible first | exact HK.out | apply KeepBut.set_ | apply keep_drewN | apply keep_drew | apply keep_alloc) | exact HK.out)) hk (.inl rfl)); have n1_ := Am (hb); have n2_ := Am (hi); clear HK; clear HB; clear HI0; have HK := n0_; have HB := n1_; have HI0 := n2_; clear n0_ n1_ n2_; (try clear hb); (try clear hb2); (try clear hk); (try clear hi)))
   go_ret
   exact ⟨by first | rfl | (simp [errW_none, errW_some] <;> rfl) | (simp [*, errW_none, errW_some] <;> rfl) | (simp [Aid.ne_nil, Aid.eq_nil, errW_none, errW_some]; done), by repeat (first | (with_reducible first | exact HI0.out | apply IsS58.alloc | apply IsS58.drewN | apply IsS58.drew | apply IsS58.set_0 | apply IsS58.set_1 | apply IsS58.set_2 | apply IsS58.set_3) | exact HI0.out), by repeat (first | (with_reducible first | exact HB.out | apply bl | apply pN | apply b1 | refine bs ?_ (IsS58.ge HI0.out)) | exact HB.out | exact HBo.out), by repeat (first | (with_reducible first | exact HK.out | apply KeepBut.set_ | apply keep_drewN | apply keep_drew | apply keep_alloc) | exact HK.out)⟩
 ·
  replace c3 := Bool.eq_false_iff.mpr c3
  subst c3
  have H1 : (some ((⟨#[]⟩ : ByteArray), t140, t141, t142, t143)) = some (r1, r2, r3, r4, r5) := by rw [if_neg (show ¬ (false = true) by decide)] at H; exact H
  clear H
  have H := H1
  clear H1
  simp only [Option.some.injEq, Prod.mk.injEq] at H
  obtain ⟨rfl, rfl, rfl, rfl, rfl⟩ := H
  go_enter Try.func42, Try.ntmps42
  go_wp2_with (first | ((with_reducible refine gate_callee (f := 51) rfl ?_); refine goesL_ (some 6) rfl rfl Try.func51 (by kernel_rfl) rfl #[.pointer (some ⟨g, 0, none⟩)] rfl (by (try simp only [List.map_toArray, List.map_cons, List.map_nil]); first | done | rfl | (simp only [List.length_drop, List.length_take]; rfl)) ?_; (with_reducible refine (wire_Reader_ok.calls g s0_0 s0_1 s0_2 s0_3 false t140 t141 t142 t143 w0 _ ?side1 ?side2 A2.out).mono ?_); (case side1 => repeat (first | (with_reducible first | exact HI0.out | apply IsS58.alloc | apply IsS58.drewN | apply IsS58.drew | apply IsS58.set_0 | apply IsS58.set_1 | apply IsS58.set_2 | apply IsS58.set_3) | exact HI0.out)); (case side2 => repeat (first | (with_reducible first | exact HB.out | apply bl | apply pN | apply b1 | refine bs ?_ (IsS58.ge HI0.out)) | exact HB.out | exact HBo.out)); rintro e w17 ⟨rfl, hi, hb, hk⟩; refine ⟨_, rfl, ?_⟩; have n0_ := Am (KeepBut.trans (by repeat (first | (with_reducible first | exact HK.out | apply KeepBut.set_ | apply keep_drewN | apply keep_drew | apply keep_alloc) | exact HK.out)) hk (.inl rfl)); have n1_ := Am (hb); have n2_ := Am (hi); clear HK; clear HB; clear HI0; have HK := n0_; have HB := n1_; have HI0 := n2_; clear n0_ n1_ n2_; (try clear hb); (try clear hb2); (try clear hk); (try clear hi)))
  go_ret
  exact ⟨by first | rfl | (simp [errW_none, errW_some] <;> rfl) | (simp [*, errW_none, errW_some] <;> rfl) | (simp [Aid.ne_nil, Aid.eq_nil, errW_none, errW_some]; done), by repeat (first | (with_reducible first | exact HI0.out | apply IsS58.alloc | apply IsS58.drewN | apply IsS58.drew | apply IsS58.set_0 | apply IsS58.set_1 | apply IsS58.set_2 | apply IsS58.set_3) | exact HI0.out), by repeat (first | (with_reducible first | exact HB.out | apply bl | apply pN | apply b1 | refine bs ?_ (IsS58.ge HI0.out)) | exact HB.out | exact HBo.out), by repeat (first | (with_reducible first | exact HK.out | apply KeepBut.set_ | apply keep_drewN | apply keep_drew | apply keep_alloc) | exact HK.out)⟩

end Go.Proofs.Ythechcflnkofgaa.Q
