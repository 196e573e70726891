-- printed by a program of this session (NOTES: hprint); not the kit's print
-- minified3
-- minified2
-- minified
-- halved
import Derived.Test.YtlmmlmmbnfcogaaAl
import Derived.Test.YtlmmlmmbnfcogaaQx0
import Derived.Test.YtlmmlmmbnfcogaaQx12
namespace Go.Proofs.Ytlmmlmmbnfcogaa.Q
open Go.RowKit Go.Proofs.YtlmmlmmbnfcogaaW.PrintWords Go.Proofs.YtlmmlmmbnfcogaaW.PrintLast Go.Proofs.YtlmmlmmbnfcogaaW.PrintMore
attribute [local go_sem] max2_int min2_int max_two min_two max_three min_three max_four min_four   -- for this text's walks alone
set_option linter.unusedVariables false
set_option linter.unusedSimpArgs false

def q13_0 : Array Bool := let o := true; let z := false; #[z,z,z,z,z,z,z,z,z,z,z,z]
def q13_1 : Array Bool := let o := true; let z := false; #[o,z,z,z,z,z,z,z,z,z,z,z]
def q13_2 : Array Bool := let o := true; let z := false; #[o,o,z,z,z,z,z,z,z,z,z,z]
def q13_3 : Array Bool := let o := true; let z := false; #[o,o,o,z,z,z,z,z,z,z,z,z]
def q13_4 : Array Bool := let o := true; let z := false; #[o,o,o,o,o,o,o,o,o,o,o,z]
def q13_5 : Array Bool := let o := true; let z := false; #[o,o,o,o,o,o,o,o,o,o,o,o]
def q13_6 : Array Bool := let o := true; let z := false; #[o,o,o,o,z,z,z,z,z,z,z,z]
def q13_7 : Array Bool := let o := true; let z := false; #[o,o,o,o,z,o,z,z,z,z,z,z]
def q13_8 : Array Bool := let o := true; let z := false; #[o,o,o,o,z,o,o,z,z,z,z,z]
def q13_9 : Array Bool := let o := true; let z := false; #[o,o,o,o,z,o,o,o,z,z,z,z]
def q13_10 : Array Bool := let o := true; let z := false; #[o,o,o,o,z,o,o,o,o,z,z,z]
def q13_11 : Array Bool := let o := true; let z := false; #[o,o,o,o,z,o,o,o,o,o,z,z]
def q13_12 : Array Bool := let o := true; let z := false; #[o,o,o,o,o,o,o,o,o,o,z,z]
/-! ### shuttlecockref01_Take: function 59 -/
mutual
def shuttlecockref01_Take.j0 : Nat → ByteArray → Int → Bool → Option (Int × Int × Int)
 | 0, _, _, _ => none
 | k + 1, x0, x1, x18 => if x18 = true then (some (0, 0, 1)) else (shuttlecockref01_Take.l0 k x0 x1 x1)
def shuttlecockref01_Take.j2 : Nat → ByteArray → Int → Int → Option (Int × Int × Int)
 | 0, _, _, _ => none
 | k + 1, x0, x1, x7 => if x7 = (x0.size : Int) then (shuttlecockref01_Take.j3 k x0 x1 x7 (decide ((wrap64 (x7 - x1)) < 9))) else (shuttlecockref01_Take.j3 k x0 x1 x7 false)
def shuttlecockref01_Take.j3 : Nat → ByteArray → Int → Int → Bool → Option (Int × Int × Int)
 | 0, _, _, _, _ => none
 | k + 1, x0, x1, x7, x41 => if x41 = true then (some (0, 0, 10)) else (if (wrap64 (x7 - x1)) > 8 then (some (0, 0, 11)) else (shuttlecockref01_Take.l1 k x0 x1 x7 0 1 x1))
def shuttlecockref01_Take.l1 : Nat → ByteArray → Int → Int → Int → Int → Int → Option (Int × Int × Int)
 | 0, _, _, _, _, _, _ => none
 | k + 1, x0, x1, x7, x8, x9, x10 => if x10 ≤ x7 then (if 0 ≤ x10 then (if x10 < (x0.size : Int) then (if x10 < x7 then (shuttlecockref01_Take.l1 k x0 x1 x7 (wrap64 (x8 + (wrap64 ((wrap64 (Int.tmod (bt x0 x10) 128)) * x9)))) (wrap64 (x9 * 128)) (wrap64 (x10 + 1))) else (shuttlecockref01_Take.l1 k x0 x1 x7 (wrap64 (x8 + (wrap64 ((wrap64 (Int.tmod (bt x0 x10) 128)) * x9)))) x9 (wrap64 (x10 + 1)))) else (none)) else (none)) else (if x8 < 0 then (some (0, 0, 11)) else ((shuttlecockref01_Put.f k x8).bind fun t211 => (if 0 ≤ x1 then (if x1 ≤ (wrap64 (x7 + 1)) then (if (wrap64 (x7 + 1)) ≤ (x0.size : Int) then (if t211.toList = (x0.extract (x1 : Int).toNat ((wrap64 (x7 + 1)) : Int).toNat).toList then (some (x8, wrap64 (x7 + 1), 0)) else (some (0, 0, 11))) else (none)) else (none)) else (none))))
def shuttlecockref01_Take.l0 : Nat → ByteArray → Int → Int → Option (Int × Int × Int)
 | 0, _, _, _ => none
 | k + 1, x0, x1, x7 => if x7 < (x0.size : Int) then (if 0 ≤ x7 then (if (bt x0 x7) ≥ 128 then (shuttlecockref01_Take.l0 k x0 x1 (wrap64 (x7 + 1))) else (shuttlecockref01_Take.j2 k x0 x1 x7)) else (none)) else (shuttlecockref01_Take.j2 k x0 x1 x7)
end
def shuttlecockref01_Take.f (k : Nat) (a0 : ByteArray) (a1 : Int) : Option (Int × Int × Int) := if a1 < 0 then (shuttlecockref01_Take.j0 k a0 a1 true) else (shuttlecockref01_Take.j0 k a0 a1 (decide (a1 > (a0.size : Int))))
theorem shuttlecockref01_Take.mono_l : ∀ k, (∀ y0 y1 y2, LeO (shuttlecockref01_Take.j0 k y0 y1 y2) (shuttlecockref01_Take.j0 (k + 1) y0 y1 y2)) ∧ (∀ y0 y1 y2, LeO (shuttlecockref01_Take.j2 k y0 y1 y2) (shuttlecockref01_Take.j2 (k + 1) y0 y1 y2)) ∧ (∀ y0 y1 y2 y3, LeO (shuttlecockref01_Take.j3 k y0 y1 y2 y3) (shuttlecockref01_Take.j3 (k + 1) y0 y1 y2 y3)) ∧ (∀ y0 y1 y2 y3 y4 y5, LeO (shuttlecockref01_Take.l1 k y0 y1 y2 y3 y4 y5) (shuttlecockref01_Take.l1 (k + 1) y0 y1 y2 y3 y4 y5)) ∧ (∀ y0 y1 y2, LeO (shuttlecockref01_Take.l0 k y0 y1 y2) (shuttlecockref01_Take.l0 (k + 1) y0 y1 y2))
 | 0 => ⟨fun _ _ _ r h => by simp [shuttlecockref01_Take.j0] at h, fun _ _ _ r h => by simp [shuttlecockref01_Take.j2] at h, fun _ _ _ _ r h => by simp [shuttlecockref01_Take.j3] at h, fun _ _ _ _ _ _ r h => by simp [shuttlecockref01_Take.l1] at h, fun _ _ _ r h => by simp [shuttlecockref01_Take.l0] at h⟩
 | k + 1 => by
  obtain ⟨ih0, ih1, ih2, ih3, ih4⟩ := shuttlecockref01_Take.mono_l k
  refine ⟨?_, ?_, ?_, ?_, ?_⟩
  ·
   intro y0 y1 y2
   unfold shuttlecockref01_Take.j0
   repeat' first
   | (with_reducible exact ih0 _ _ _)
   | (with_reducible exact ih1 _ _ _)
   | (with_reducible exact ih2 _ _ _ _)
   | (with_reducible exact ih3 _ _ _ _ _ _)
   | (with_reducible exact ih4 _ _ _)
   | (with_reducible exact shuttlecockref01_Put.mono _ _)
   | (with_reducible exact LeO.refl _)
   | (with_reducible exact LeO.none _)
   | (with_reducible refine LeO.ite ?_ ?_)
   | (with_reducible refine LeO.bind ?_ (fun _ => ?_))
   | exact LeO.none _
   | refine LeO.ite ?_ ?_
   | refine LeO.bind ?_ (fun _ => ?_)
  ·
   intro y0 y1 y2
   unfold shuttlecockref01_Take.j2
   repeat' first
   | (with_reducible exact ih0 _ _ _)
   | (with_reducible exact ih1 _ _ _)
   | (with_reducible exact ih2 _ _ _ _)
   | (with_reducible exact ih3 _ _ _ _ _ _)
   | (with_reducible exact ih4 _ _ _)
   | (with_reducible exact shuttlecockref01_Put.mono _ _)
   | (with_reducible exact LeO.refl _)
   | (with_reducible exact LeO.none _)
   | (with_reducible refine LeO.ite ?_ ?_)
   | (with_reducible refine LeO.bind ?_ (fun _ => ?_))
   | exact LeO.none _
   | refine LeO.ite ?_ ?_
   | refine LeO.bind ?_ (fun _ => ?_)
  ·
   intro y0 y1 y2 y3
   unfold shuttlecockref01_Take.j3
   repeat' first
   | (with_reducible exact ih0 _ _ _)
   | (with_reducible exact ih1 _ _ _)
   | (with_reducible exact ih2 _ _ _ _)
   | (with_reducible exact ih3 _ _ _ _ _ _)
   | (with_reducible exact ih4 _ _ _)
   | (with_reducible exact shuttlecockref01_Put.mono _ _)
   | (with_reducible exact LeO.refl _)
   | (with_reducible exact LeO.none _)
   | (with_reducible refine LeO.ite ?_ ?_)
   | (with_reducible refine LeO.bind ?_ (fun _ => ?_))
   | exact LeO.none _
   | refine LeO.ite ?_ ?_
   | refine LeO.bind ?_ (fun _ => ?_)
  ·
   intro y0 y1 y2 y3 y4 y5
   unfold shuttlecockref01_Take.l1
   repeat' first
   | (with_reducible exact ih0 _ _ _)
   | (with_reducible exact ih1 _ _ _)
   | (with_reducible exact ih2 _ _ _ _)
   | (with_reducible exact ih3 _ _ _ _ _ _)
   | (with_reducible exact ih4 _ _ _)
   | (with_reducible exact shuttlecockref01_Put.mono _ _)
   | (with_reducible exact LeO.refl _)
   | (with_reducible exact LeO.none _)
   | (with_reducible refine LeO.ite ?_ ?_)
   | (with_reducible refine LeO.bind ?_ (fun _ => ?_))
   | exact LeO.none _
   | refine LeO.ite ?_ ?_
   | refine LeO.bind ?_ (fun _ => ?_)
  ·
   intro y0 y1 y2
   unfold shuttlecockref01_Take.l0
   repeat' first
   | (with_reducible exact ih0 _ _ _)
   | (with_reducible exact ih1 _ _ _)
   | (with_reducible exact ih2 _ _ _ _)
   | (with_reducible exact ih3 _ _ _ _ _ _)
   | (with_reducible exact ih4 _ _ _)
   | (with_reducible exact shuttlecockref01_Put.mono _ _)
   | (with_reducible exact LeO.refl _)
   | (with_reducible exact LeO.none _)
   | (with_reducible refine LeO.ite ?_ ?_)
   | (with_reducible refine LeO.bind ?_ (fun _ => ?_))
   | exact LeO.none _
   | refine LeO.ite ?_ ?_
   | refine LeO.bind ?_ (fun _ => ?_)
theorem shuttlecockref01_Take.mono : ∀ a0 a1 k, LeO (shuttlecockref01_Take.f k a0 a1) (shuttlecockref01_Take.f (k + 1) a0 a1) := by
 intro a0 a1 k
 obtain ⟨ih0, ih1, ih2, ih3, ih4⟩ := shuttlecockref01_Take.mono_l k
 unfold shuttlecockref01_Take.f
 repeat' first
   | (with_reducible exact ih0 _ _ _)
   | (with_reducible exact ih1 _ _ _)
   | (with_reducible exact ih2 _ _ _ _)
   | (with_reducible exact ih3 _ _ _ _ _ _)
   | (with_reducible exact ih4 _ _ _)
   | (with_reducible exact shuttlecockref01_Put.mono _ _)
   | (with_reducible exact LeO.refl _)
   | (with_reducible exact LeO.none _)
   | (with_reducible refine LeO.ite ?_ ?_)
   | (with_reducible refine LeO.bind ?_ (fun _ => ?_))
   | exact LeO.none _
   | refine LeO.ite ?_ ?_
   | refine LeO.bind ?_ (fun _ => ?_)
def shuttlecockref01_Take.T18 : Bool × List (List Nat × List Nat) := (true, [([], []), ([0], [0]), ([1], [1]), ([2], [2]), ([3, 2, 2], [2, 3]), ([2], [2]), ([2], [2]), ([2], [2]), ([7, 2], [2, 7]), ([5, 6, 8, 2], [2, 5, 6, 8]), ([4, 9, 2], [2, 4, 9]), ([2, 10], [2, 10])])
def shuttlecockref01_Take.B18 : List Nat := [0, 1, 3, 7, 15, 7, 7, 7, 135, 487, 1023, 2047]
theorem shuttlecockref01_Take.tab18 : rtab .any (opsOf Try.f59 18) = shuttlecockref01_Take.T18 := by kernel_rfl
theorem shuttlecockref01_Take.bits18 : waitsOk shuttlecockref01_Take.T18.2 shuttlecockref01_Take.B18 = true := by kernel_rfl
set_option maxHeartbeats 8000000 in
set_option maxRecDepth 100000 in
theorem shuttlecockref01_Take.calls (k : Nat) (a0 : ByteArray) (a1 : Int) (r1 : Int) (r2 : Int) (r3 : Int) (w : World) (h : shuttlecockref01_Take.f k a0 a1 = some (r1, r2, r3)) :
  Calls Try.prog 59 #[.string a0, .int .i64 a1] w fun e w' => e = .returned (.tuple #[.int .i64 r1, .int .i64 r2, .int .i64 r3]) ∧ Below w.heap.size w w' := by
 have HB := Am (Below.refl w.heap.size w)
 have H : (if a1 < 0 then (shuttlecockref01_Take.j0 k a0 a1 true) else (shuttlecockref01_Take.j0 k a0 a1 (decide (a1 > (a0.size : Int))))) = some (r1, r2, r3) := h
 clear h
 have HC3 := Am H
 clear H
 go_enter Try.func59, Try.ntmps59
 go_upto_region 1 with (fail)
 go_cut [18] (fun v18 wc => ∃ (kq : Nat) (x18_2 : Bool), v18 = .bool x18_2 ∧ Aside0 (shuttlecockref01_Take.j0 kq a0 a1 x18_2 = some (r1, r2, r3)) ∧ Aside0 (kq ≤ k) ∧ Aside0 (Below w.heap.size w wc))
 case first =>
  have H := HC3.out
  clear HC3
  by_cases c4 : a1 < 0
  ·
   rw [if_pos c4] at H
   have c4b0 : decide (a1 < 0) = true := decide_eq_true c4
   clear c4
   (first | rw [c4b0] | (simp only [i64_w, i32_w]; rw [c4b0]) | skip)
   have H' := Am H
   clear H
   go_wp2
   go_meet
   case rel => exact ⟨_, (true), (by first | rfl | (simp; done) | (simp [*]; done) | (simp; generalize ByteArray.toList _ = l_; cases l_ <;> rfl)), H', ⟨by first | omega | exact Nat.le_refl _⟩, ⟨z3⟩⟩
  ·
   rw [if_neg c4] at H
   have c4b0 : decide (a1 < 0) = false := decide_eq_false c4
   clear c4
   (first | rw [c4b0] | (simp only [i64_w, i32_w]; rw [c4b0]) | skip)
   have H' := Am H
   clear H
   go_wp2
   go_meet
   case rel => exact ⟨_, (decide (a1 > (a0.size : Int))), (by first | rfl | (simp; done) | (simp [*]; done) | (simp; generalize ByteArray.toList _ = l_; cases l_ <;> rfl)), H', ⟨by first | omega | exact Nat.le_refl _⟩, ⟨z3⟩⟩
 case rest =>
  clear HC3
  try clear p2
  try clear c4
  try clear c4b0
  obtain ⟨kq, x18_2, rfl, HA, HJ2, HB⟩ := hcut
  cases kq with
  | zero => exact absurd HA.out (by simp [shuttlecockref01_Take.j0])
  | succ kj2 =>
   have H := HA.out
   clear HA
   simp only [shuttlecockref01_Take.j0] at H
   by_cases c5 : x18_2 = true
   ·
    subst c5
    rw [if_pos rfl] at H
    simp only [Option.some.injEq, Prod.mk.injEq] at H
    obtain ⟨rfl, rfl, rfl⟩ := H
    go_wp2
    go_ret3
    exact ⟨y0, z3⟩
   ·
    replace c5 := Bool.eq_false_iff.mpr c5
    subst c5
    rw [if_neg (show ¬ (false = true) by decide)] at H
    have HC6 := Am H
    clear H
    go_upto_block 0 with (fail)
    go_cut [7] (fun v7 wc => ∃ (kq : Nat) (x7_5 : Int), v7 = .int .i64 x7_5 ∧ Aside0 (shuttlecockref01_Take.j2 kq a0 a1 x7_5 = some (r1, r2, r3)) ∧ Aside0 (kq ≤ kj2) ∧ Aside0 (Below w.heap.size w wc))
    case first =>
     have H := HC6.out
     clear HC6
     have H' := Am H
     clear H
     go_wp2
     go_loopg [7] kj2 (fun kq v7 w' => ∃ (x7_2 : Int), v7 = .int .i64 x7_2 ∧ Aside0 (shuttlecockref01_Take.l0 kq a0 a1 x7_2 = some (r1, r2, r3)) ∧ Aside0 (kq ≤ kj2) ∧ Aside0 (Below w.heap.size w w'))
     case atStart => exact ⟨(a1), (by first | rfl | (simp; done) | (simp [*]; done) | (simp; generalize ByteArray.toList _ = l_; cases l_ <;> rfl)), H', ⟨Nat.le_refl _⟩, ⟨z3⟩⟩
     case round =>
      clear H'
      try clear p2
      try clear c4
      try clear c4b0
      try clear c5
      try clear p2
      obtain ⟨x7_2, rfl, HA, HK2, HB⟩ := hrel
      cases gk with
      | zero => exact absurd HA.out (by simp [shuttlecockref01_Take.l0])
      | succ k2 =>
       have H := HA.out
       clear HA
       simp only [shuttlecockref01_Take.l0] at H
       by_cases c7 : x7_2 < (a0.size : Int)
       ·
        rw [if_pos c7] at H
        have c7b0 : decide (x7_2 < (a0.size : Int)) = true := decide_eq_true c7
        clear c7
        (first | rw [c7b0] | (simp only [i64_w, i32_w]; rw [c7b0]) | skip)
        by_cases c8 : 0 ≤ x7_2
        ·
         rw [if_pos c8] at H
         have c8b0 : decide (0 ≤ x7_2) = true := decide_eq_true c8
         clear c8
         by_cases c10 : (bt a0 x7_2) ≥ 128
         ·
          rw [if_pos c10] at H
          have c10b0 : decide (128 ≤ (bt a0 x7_2)) = true := decide_eq_true c10
          clear c10
          have H' := Am H
          clear H
          have p9 : 0 ≤ (x7_2 : Int) := dz
          have q9 : x7_2 < (a0.size : Int) := dz
          have hx9 := bt_at a0 x7_2
          replace p9 := eq_true p9
          replace q9 := eq_true q9
          go_wp2
          go_roundg k2
          case measure => have := HJ2.out; have := HK2.out; omega
          case rel => exact ⟨(wrap64 (x7_2 + 1)), (by first | rfl | (simp; done) | (simp [*]; done) | (simp; generalize ByteArray.toList _ = l_; cases l_ <;> rfl)), H', ⟨by have := HJ2.out; have := HK2.out; omega⟩, ⟨z3⟩⟩
         ·
          rw [if_neg c10] at H
          have c10b0 : decide (128 ≤ (bt a0 x7_2)) = false := decide_eq_false c10
          clear c10
          have H' := Am H
          clear H
          have p9 : 0 ≤ (x7_2 : Int) := dz
          have q9 : x7_2 < (a0.size : Int) := dz
          have hx9 := bt_at a0 x7_2
          replace p9 := eq_true p9
          replace q9 := eq_true q9
          go_wp2
          go_meet
          case rel => exact ⟨_, (x7_2), (by first | rfl | (simp; done) | (simp [*]; done) | (simp; generalize ByteArray.toList _ = l_; cases l_ <;> rfl)), H', ⟨by have := HJ2.out; have := HK2.out; first | omega | exact Nat.le_refl _⟩, ⟨z3⟩⟩
        ·
         rw [if_neg c8] at H
         exact absurd H (by simp)
       ·
        rw [if_neg c7] at H
        have c7b0 : decide (x7_2 < (a0.size : Int)) = false := decide_eq_false c7
        clear c7
        (first | rw [c7b0] | (simp only [i64_w, i32_w]; rw [c7b0]) | skip)
        have H' := Am H
        clear H
        go_wp2
        go_meet
        case rel => exact ⟨_, (x7_2), (by first | rfl | (simp; done) | (simp [*]; done) | (simp; generalize ByteArray.toList _ = l_; cases l_ <;> rfl)), H', ⟨by have := HJ2.out; have := HK2.out; first | omega | exact Nat.le_refl _⟩, ⟨z3⟩⟩
    case rest =>
     clear HC6
     try clear c1
     try clear p2
     try clear c4
     try clear c4b0
     try clear c5
     try clear p6
     try clear c7
     try clear c7b0
     try clear c8
     try clear c8b0
     try clear p9
     try clear q9
     try clear hx9
     try clear c10
     try clear c10b0
     try clear p2
     try clear p9
     try clear q9
     obtain ⟨kq, x7_5, rfl, HA, HJ5, HB⟩ := hcut
     cases kq with
     | zero => exact absurd HA.out (by simp [shuttlecockref01_Take.j2])
     | succ kj5 =>
      have H := HA.out
      clear HA
      simp only [shuttlecockref01_Take.j2] at H
      have HC11 := Am H
      clear H
      go_upto_region 6 with (fail)
      go_cut [41] (fun v41 wc => ∃ (kq : Nat) (x41_10 : Bool), v41 = .bool x41_10 ∧ Aside0 (shuttlecockref01_Take.j3 kq a0 a1 x7_5 x41_10 = some (r1, r2, r3)) ∧ Aside0 (kq ≤ kj5) ∧ Aside0 (Below w.heap.size w wc))
      case first =>
       have H := HC11.out
       clear HC11
       by_cases c12 : x7_5 = (a0.size : Int)
       ·
        rw [if_pos c12] at H
        have c12b0 : (x7_5 == (a0.size : Int)) = true := beq_iff_eq.mpr c12
        have c12b1 : (x7_5 != (a0.size : Int)) = false := bne_eq_false_iff_eq.mpr c12
        clear c12
        (first | rw [c12b0] | (simp only [i64_w, i32_w]; rw [c12b0]) | skip)
        have H' := Am H
        clear H
        go_wp2
        go_meet
        case rel => exact ⟨_, (decide ((wrap64 (x7_5 - a1)) < 9)), (by first | rfl | (simp; done) | (simp [*]; done) | (simp; generalize ByteArray.toList _ = l_; cases l_ <;> rfl)), H', ⟨by have := HJ2.out; have := HJ5.out; first | omega | exact Nat.le_refl _⟩, ⟨z3⟩⟩
       ·
        rw [if_neg c12] at H
        have c12b0 : (x7_5 == (a0.size : Int)) = false := beq_eq_false_iff_ne.mpr c12
        have c12b1 : (x7_5 != (a0.size : Int)) = true := bne_iff_ne.mpr c12
        (first | rw [c12b0] | (simp only [i64_w, i32_w]; rw [c12b0]) | skip)
        have H' := Am H
        clear H
        go_wp2
        go_meet
        case rel => exact ⟨_, (false), (by first | rfl | (simp; done) | (simp [*]; done) | (simp; generalize ByteArray.toList _ = l_; cases l_ <;> rfl)), H', ⟨by have := HJ2.out; have := HJ5.out; first | omega | exact Nat.le_refl _⟩, ⟨z3⟩⟩
      case rest =>
       clear HC11
       try clear c1
       try clear p2
       try clear c4
       try clear c4b0
       try clear c5
       try clear p6
       try clear c7
       try clear c7b0
       try clear c8
       try clear c8b0
       try clear p9
       try clear q9
       try clear hx9
       try clear c10
       try clear c10b0
       try clear c12
       try clear c12b0
       try clear c12b1
       try clear p2
       try clear p6
       try clear p9
       try clear q9
       obtain ⟨kq, x41_10, rfl, HA, HJ10, HB⟩ := hcut
       cases kq with
       | zero => exact absurd HA.out (by simp [shuttlecockref01_Take.j3])
       | succ kj10 =>
        have H := HA.out
        clear HA
        simp only [shuttlecockref01_Take.j3] at H
        by_cases c13 : x41_10 = true
        ·
         subst c13
         rw [if_pos rfl] at H
         simp only [Option.some.injEq, Prod.mk.injEq] at H
         obtain ⟨rfl, rfl, rfl⟩ := H
         go_wp2
         go_ret3
         exact ⟨y0, z3⟩
        ·
         replace c13 := Bool.eq_false_iff.mpr c13
         subst c13
         rw [if_neg (show ¬ (false = true) by decide)] at H
         by_cases c14 : (wrap64 (x7_5 - a1)) > 8
         ·
          rw [if_pos c14] at H
          have c14b0 : decide (8 < (wrap64 (x7_5 - a1))) = true := decide_eq_true c14
          clear c14
          simp only [Option.some.injEq, Prod.mk.injEq] at H
          obtain ⟨rfl, rfl, rfl⟩ := H
          go_wp2
          go_ret3
          exact ⟨y0, z3⟩
         ·
          rw [if_neg c14] at H
          have c14b0 : decide (8 < (wrap64 (x7_5 - a1))) = false := decide_eq_false c14
          clear c14
          have H' := Am H
          clear H
          go_wp2
          go_loopg [8, 9, 10] kj10 (fun kq v8 v9 v10 w' => ∃ (x8_4 : Int) (x9_4 : Int) (x10_4 : Int), v8 = .int .i64 x8_4 ∧ v9 = .int .i64 x9_4 ∧ v10 = .int .i64 x10_4 ∧ Aside0 (shuttlecockref01_Take.l1 kq a0 a1 x7_5 x8_4 x9_4 x10_4 = some (r1, r2, r3)) ∧ Aside0 (kq ≤ kj10) ∧ Aside0 (Below w.heap.size w w'))
          case atStart => exact ⟨(0), (1), (a1), (by first | rfl | (simp; done) | (simp [*]; done)), (by first | rfl | (simp; done) | (simp [*]; done)), (by first | rfl | (simp; done) | (simp [*]; done) | (simp; generalize ByteArray.toList _ = l_; cases l_ <;> rfl)), H', ⟨Nat.le_refl _⟩, ⟨z3⟩⟩
          case round =>
           clear H'
           try clear c1
           try clear p2
           try clear c4
           try clear c4b0
           try clear c5
           try clear p6
           try clear c7
           try clear c7b0
           try clear c8
           try clear c8b0
           try clear p9
           try clear q9
           try clear hx9
           try clear c10
           try clear c10b0
           try clear c12
           try clear c12b0
           try clear c12b1
           try clear c13
           try clear c14
           try clear c14b0
           try clear p2
           try clear p6
           try clear p9
           try clear q9
           obtain ⟨x8_4, x9_4, x10_4, rfl, rfl, rfl, HA, HK4, HB⟩ := hrel
           cases gk with
           | zero => exact absurd HA.out (by simp [shuttlecockref01_Take.l1])
           | succ k4 =>
            have H := HA.out
            clear HA
            simp only [shuttlecockref01_Take.l1] at H
            by_cases c15 : x10_4 ≤ x7_5
            ·
             rw [if_pos c15] at H
             have c15b0 : decide (x10_4 ≤ x7_5) = true := decide_eq_true c15
             clear c15
             by_cases c16 : 0 ≤ x10_4
             ·
              rw [if_pos c16] at H
              have c16b0 : decide (0 ≤ x10_4) = true := decide_eq_true c16
              clear c16
              by_cases c17 : x10_4 < (a0.size : Int)
              ·
               rw [if_pos c17] at H
               have c17b0 : decide (x10_4 < (a0.size : Int)) = true := decide_eq_true c17
               clear c17
               by_cases c19 : x10_4 < x7_5
               ·
                rw [if_pos c19] at H
                have c19b0 : decide (x10_4 < x7_5) = true := decide_eq_true c19
                clear c19
                have H' := Am H
                clear H
                have p18 : 0 ≤ (x10_4 : Int) := dz
                have q18 : x10_4 < (a0.size : Int) := dz
                have hx18 := bt_at a0 x10_4
                replace p18 := eq_true p18
                replace q18 := eq_true q18
                go_wp2
                go_roundg k4
                case measure => have := HJ2.out; have := HJ5.out; have := HJ10.out; have := HK4.out; omega
                case rel => exact ⟨(wrap64 (x8_4 + (wrap64 ((wrap64 (Int.tmod (bt a0 x10_4) 128)) * x9_4)))), (wrap64 (x9_4 * 128)), (wrap64 (x10_4 + 1)), (by first | rfl | (simp; done) | (simp [*]; done)), (by first | rfl | (simp; done) | (simp [*]; done)), (by first | rfl | (simp; done) | (simp [*]; done) | (simp; generalize ByteArray.toList _ = l_; cases l_ <;> rfl)), H', ⟨by have := HJ2.out; have := HJ5.out; have := HJ10.out; have := HK4.out; omega⟩, ⟨z3⟩⟩
               ·
                rw [if_neg c19] at H
                have c19b0 : decide (x10_4 < x7_5) = false := decide_eq_false c19
                clear c19
                have H' := Am H
                clear H
                have p18 : 0 ≤ (x10_4 : Int) := dz
                have q18 : x10_4 < (a0.size : Int) := dz
                have hx18 := bt_at a0 x10_4
                replace p18 := eq_true p18
                replace q18 := eq_true q18
                go_wp2
                go_roundg k4
                case measure => have := HJ2.out; have := HJ5.out; have := HJ10.out; have := HK4.out; omega
                case rel => exact ⟨(wrap64 (x8_4 + (wrap64 ((wrap64 (Int.tmod (bt a0 x10_4) 128)) * x9_4)))), (x9_4), (wrap64 (x10_4 + 1)), (by first | rfl | (simp; done) | (simp [*]; done)), (by first | rfl | (simp; done) | (simp [*]; done)), (by first | rfl | (simp; done) | (simp [*]; done) | (simp; generalize ByteArray.toList _ = l_; cases l_ <;> rfl)), H', ⟨by have := HJ2.out; have := HJ5.out; have := HJ10.out; have := HK4.out; omega⟩, ⟨z3⟩⟩
              ·
               rw [if_neg c17] at H
               exact absurd H (by simp)
             ·
              rw [if_neg c16] at H
              exact absurd H (by simp)
            ·
             rw [if_neg c15] at H
             have c15b0 : decide (x10_4 ≤ x7_5) = false := decide_eq_false c15
             clear c15
             by_cases c20 : x8_4 < 0
             ·
              rw [if_pos c20] at H
              have c20b0 : decide (x8_4 < 0) = true := decide_eq_true c20
              clear c20
              simp only [Option.some.injEq, Prod.mk.injEq] at H
              obtain ⟨rfl, rfl, rfl⟩ := H
              try go_wp2
              have HBo := HB; have n0_ := Am (b1 HB.out)
              clear HB
              have HB := n0_
              clear n0_
              refine start_ (n := 12) (S := fun w' => True) (ds := []) q13_0 (by kernel_rfl) rfl rfl trivial (fun hHeld => ?_); refine with_tabW shuttlecockref01_Take.tab18 shuttlecockref01_Take.bits18 (fun HT_ HW_ => ?_)
              generalize wr.drew = w21 at HB hHeld ⊢
              refine Own.pr_ 0 (some 66) q13_1 HT_ (h := ?_)
              refine Own.pr_ 1 (some 67) q13_2 HT_ (h := ?_)
              refine Own.pr_ 2 (some 68) q13_3 HT_ (h := ?_)
              refine Own.skips_ HT_.out [3, 4, 5, 6, 7, 8, 9, 10] [some 69, some 70, some 71, some 72, some 73, some 74, some 75, some 76] 1 9 _ q13_4 _ ?_ _ rfl (by kernel_rfl) (fun _ _ _ _ h => h) (by kernel_rfl) ?_ ?_
              rotate_left
              ·
               simp only [Own.putU, Act.put, sI, sZ, sS]
               rfl
              refine Own.pr_ 11 (some 77) q13_5 HT_ (h := ?_)
              refine done_ (done_of HT_.out (by kernel_rfl)) ?_
              try go_wp2
              go_ret3
              exact ⟨y0, z3⟩
             ·
              rw [if_neg c20] at H
              have c20b0 : decide (x8_4 < 0) = false := decide_eq_false c20
              clear c20
              replace H := ob H
              obtain ⟨t211, A220, H⟩ := H
              (try dsimp only at H)
              have A22 := Am A220
              clear A220
              by_cases c23 : 0 ≤ a1
              ·
               rw [if_pos c23] at H
               have c23b0 := eq_true c23
               have c23b1 : decide (0 ≤ a1) = true := decide_eq_true c23
               clear c23
               by_cases c24 : a1 ≤ (wrap64 (x7_5 + 1))
               ·
                rw [if_pos c24] at H
                have c24b0 := eq_true c24
                have c24b1 : decide (a1 ≤ (wrap64 (x7_5 + 1))) = true := decide_eq_true c24
                by_cases c25 : (wrap64 (x7_5 + 1)) ≤ (a0.size : Int)
                ·
                 rw [if_pos c25] at H
                 have c25b0 := eq_true c25
                 have c25b1 : decide ((wrap64 (x7_5 + 1)) ≤ (a0.size : Int)) = true := decide_eq_true c25
                 by_cases c26 : t211.toList = (a0.extract (a1 : Int).toNat ((wrap64 (x7_5 + 1)) : Int).toNat).toList
                 ·
                  rw [if_pos c26] at H
                  have c26b0 : (t211.toList == (a0.extract (a1 : Int).toNat ((wrap64 (x7_5 + 1)) : Int).toNat).toList) = true := beq_iff_eq.mpr c26
                  have c26b1 : (t211.toList != (a0.extract (a1 : Int).toNat ((wrap64 (x7_5 + 1)) : Int).toNat).toList) = false := bne_eq_false_iff_eq.mpr c26
                  clear c26
                  simp only [Option.some.injEq, Prod.mk.injEq] at H
                  obtain ⟨rfl, rfl, rfl⟩ := H
                  try go_wp2
                  have HBo := HB; have n0_ := Am (b1 HB.out)
                  clear HB
                  have HB := n0_
                  clear n0_
                  refine start_ (n := 12) (S := fun w' => True) (ds := []) q13_0 (by kernel_rfl) rfl rfl trivial (fun hHeld => ?_); refine with_tabW shuttlecockref01_Take.tab18 shuttlecockref01_Take.bits18 (fun HT_ HW_ => ?_)
                  generalize wr.drew = w27 at HB hHeld ⊢
                  refine Own.pr_ 0 (some 66) q13_1 HT_ (h := ?_)
                  refine Own.pr_ 1 (some 67) q13_2 HT_ (h := ?_)
                  refine Own.pr_ 2 (some 68) q13_3 HT_ (h := ?_)
                  refine Own.pr_ 3 (some 69) q13_6 HT_ (h := ?_)
                  refine Own.pr_ 5 (some 71) q13_7 HT_ (h := ?_)
                  refine Own.pr_ 6 (some 72) q13_8 HT_ (h := ?_)
                  refine Own.pr_ 7 (some 73) q13_9 HT_ (h := ?_)
                  refine Own.pr_ 8 (some 74) q13_10 HT_ (h := ?_)
                  refine Own.pr_ 9 (some 75) q13_11 HT_ (h := ?_)
                  refine one_ (i := 4) (N := some 70) q13_12 rfl rfl (one_of HT_.out (by kernel_rfl)) (by decide) (fun K hK => ?_)
                  refine goes_ Try.func52 (by kernel_rfl) rfl #[.int .i64 x8_4] (by rfl) rfl rfl (by (try simp only [List.map_toArray, List.map_cons, List.map_nil]); first | done | rfl | (simp only [List.length_drop, List.length_take]; rfl)) ?_
                  with_reducible refine (shuttlecockref01_Put.calls k4 x8_4 t211 _ A22.out).mono ?_
                  rintro e w28 ⟨rfl, hb⟩
                  refine ⟨_, rfl, ?_⟩
                  replace HB := Am (below_step (z3) hb)
                  (try clear hb)
                  (try clear hb2)
                  (try clear hk)
                  (try clear hi)
                  refine hK.out _ _ trivial (fun hHeld => ?_)
                  clear hK K
                  refine norm_ (a' := ?_) ?_ ?_
                  rotate_left
                  ·
                   show Act.put _ (some 70) _ = _
                   simp only [Act.put, sI, sZ, sS, i64_w, i32_w]
                   rfl
                  refine Own.pr_ 10 (some 76) q13_4 HT_ (h := ?_)
                  refine Own.pr_ 11 (some 77) q13_5 HT_ (h := ?_)
                  refine done_ (done_of HT_.out (by kernel_rfl)) ?_
                  try go_wp2
                  go_ret3
                  exact ⟨y0, z3⟩
                 ·
                  rw [if_neg c26] at H
                  have c26b0 : (t211.toList == (a0.extract (a1 : Int).toNat ((wrap64 (x7_5 + 1)) : Int).toNat).toList) = false := beq_eq_false_iff_ne.mpr c26
                  have c26b1 : (t211.toList != (a0.extract (a1 : Int).toNat ((wrap64 (x7_5 + 1)) : Int).toNat).toList) = true := bne_iff_ne.mpr c26
                  simp only [Option.some.injEq, Prod.mk.injEq] at H
                  obtain ⟨rfl, rfl, rfl⟩ := H
                  try go_wp2
                  have HBo := HB; have n0_ := Am (b1 HB.out)
                  clear HB
                  have HB := n0_
                  clear n0_
                  refine start_ (n := 12) (S := fun w' => True) (ds := []) q13_0 (by kernel_rfl) rfl rfl trivial (fun hHeld => ?_); refine with_tabW shuttlecockref01_Take.tab18 shuttlecockref01_Take.bits18 (fun HT_ HW_ => ?_)
                  generalize wr.drew = w29 at HB hHeld ⊢
                  refine Own.pr_ 0 (some 66) q13_1 HT_ (h := ?_)
                  refine Own.pr_ 1 (some 67) q13_2 HT_ (h := ?_)
                  refine Own.pr_ 2 (some 68) q13_3 HT_ (h := ?_)
                  refine Own.pr_ 3 (some 69) q13_6 HT_ (h := ?_)
                  refine Own.pr_ 5 (some 71) q13_7 HT_ (h := ?_)
                  refine Own.pr_ 6 (some 72) q13_8 HT_ (h := ?_)
                  refine Own.pr_ 7 (some 73) q13_9 HT_ (h := ?_)
                  refine Own.pr_ 8 (some 74) q13_10 HT_ (h := ?_)
                  refine Own.pr_ 9 (some 75) q13_11 HT_ (h := ?_)
                  refine one_ (i := 4) (N := some 70) q13_12 rfl rfl (one_of HT_.out (by kernel_rfl)) (by decide) (fun K hK => ?_)
                  refine goes_ Try.func52 (by kernel_rfl) rfl #[.int .i64 x8_4] (by rfl) rfl rfl (by (try simp only [List.map_toArray, List.map_cons, List.map_nil]); first | done | rfl | (simp only [List.length_drop, List.length_take]; rfl)) ?_
                  with_reducible refine (shuttlecockref01_Put.calls k4 x8_4 t211 _ A22.out).mono ?_
                  rintro e w30 ⟨rfl, hb⟩
                  refine ⟨_, rfl, ?_⟩
                  replace HB := Am (below_step (z3) hb)
                  (try clear hb)
                  (try clear hb2)
                  (try clear hk)
                  (try clear hi)
                  refine hK.out _ _ trivial (fun hHeld => ?_)
                  clear hK K
                  refine norm_ (a' := ?_) ?_ ?_
                  rotate_left
                  ·
                   show Act.put _ (some 70) _ = _
                   simp only [Act.put, sI, sZ, sS, i64_w, i32_w]
                   rfl
                  refine Own.pr_ 10 (some 76) q13_4 HT_ (h := ?_)
                  refine Own.pr_ 11 (some 77) q13_5 HT_ (h := ?_)
                  refine done_ (done_of HT_.out (by kernel_rfl)) ?_
                  try go_wp2
                  go_ret3
                  exact ⟨y0, z3⟩
                ·
                 rw [if_neg c25] at H
                 exact absurd H (by simp)
               ·
                rw [if_neg c24] at H
                exact absurd H (by simp)
              ·
               rw [if_neg c23] at H
               exact absurd H (by simp)

end Go.Proofs.Ytlmmlmmbnfcogaa.Q
