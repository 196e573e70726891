-- printed by a program of this session (NOTES: hprint); not the kit's print
-- minified3
-- minified2
-- minified
-- halved
import Derived.Test.YtfcombimnmkoeaaOg
import Derived.Test.YtfcombimnmkoeaaAl
import Derived.Test.YtfcombimnmkoeaaQx0
import Derived.Test.YtfcombimnmkoeaaQx6
import Derived.Test.YtfcombimnmkoeaaQx7
namespace Go.Proofs.Ytfcombimnmkoeaa.Q
open Go.RowKit Go.Proofs.YtfcombimnmkoeaaW.PrintWords Go.Proofs.YtfcombimnmkoeaaW.PrintLast Go.Proofs.YtfcombimnmkoeaaW.PrintMore
attribute [local go_sem] max2_int min2_int max_two min_two max_three min_three max_four min_four   -- for this text's walks alone
set_option linter.unusedVariables false
set_option linter.unusedSimpArgs false

def q8_0 : Array Bool := let o := true; let z := false; #[z,z,z,z,z,z,z,z,z,z]
def q8_1 : Array Bool := let o := true; let z := false; #[o,z,z,z,z,z,z,z,z,z]
def q8_2 : Array Bool := let o := true; let z := false; #[o,z,z,z,z,o,z,z,z,z]
def q8_3 : Array Bool := let o := true; let z := false; #[o,o,z,z,z,o,z,z,z,z]
def q8_4 : Array Bool := let o := true; let z := false; #[o,o,o,z,z,o,z,z,z,z]
def q8_5 : Array Bool := let o := true; let z := false; #[o,o,o,z,z,o,o,z,z,z]
def q8_6 : Array Bool := let o := true; let z := false; #[o,o,o,o,o,o,o,o,z,z]
def q8_7 : Array Bool := let o := true; let z := false; #[o,o,o,o,z,o,o,z,z,z]
def q8_8 : Array Bool := let o := true; let z := false; #[o,o,o,z,z,o,o,o,z,z]
def q8_9 : Array Bool := let o := true; let z := false; #[o,o,o,o,o,o,o,z,z,z]
def q8_10 : Array Bool := let o := true; let z := false; #[o,o,o,o,z,o,o,o,z,z]
def q8_11 : Array Bool := let o := true; let z := false; #[o,o,o,o,o,o,o,o,o,z]
def q8_12 : Array Bool := let o := true; let z := false; #[o,o,o,o,o,o,o,o,o,o]
/-! ### shuttlecockref02_Nums: function 36 -/
def shuttlecockref02_Nums.l0 : Nat → List Int → ByteArray → Int → Option (ByteArray)
 | 0, _, _, _ => none
 | k + 1, x0, x3, x4 => if x4 < (x0.length : Int) then (if 0 ≤ x4 then ((shuttlecockref01_Put.f k (rd x0 x4)).bind fun t350 => (if t350.toList = ([] : List UInt8) then (some (⟨#[]⟩ : ByteArray)) else ((shuttlecockref01_Put.f k (rd x0 x4)).bind fun t352 => (if x3.size + t352.size ≤ 9223372036854775807 then (shuttlecockref02_Nums.l0 k x0 (x3 ++ t352) (wrap64 (x4 + 1))) else (none))))) else (none)) else (some x3)
def shuttlecockref02_Nums.f (k : Nat) (l0 : List Int) : Option (ByteArray) := shuttlecockref02_Nums.l0 k l0 (⟨#[]⟩ : ByteArray) 0
theorem shuttlecockref02_Nums.mono_l : ∀ k, (∀ y0 y1 y2, LeO (shuttlecockref02_Nums.l0 k y0 y1 y2) (shuttlecockref02_Nums.l0 (k + 1) y0 y1 y2))
 | 0 => fun _ _ _ r h => by simp [shuttlecockref02_Nums.l0] at h
 | k + 1 => by
  have ih0 := shuttlecockref02_Nums.mono_l k
  ·
   intro y0 y1 y2
   unfold shuttlecockref02_Nums.l0
   repeat' first
   | (with_reducible exact ih0 _ _ _)
   | (with_reducible exact shuttlecockref01_Put.mono _ _)
   | (with_reducible exact LeO.refl _)
   | (with_reducible exact LeO.none _)
   | (with_reducible refine LeO.ite ?_ ?_)
   | (with_reducible refine LeO.bind ?_ (fun _ => ?_))
   | exact LeO.none _
   | refine LeO.ite ?_ ?_
   | refine LeO.bind ?_ (fun _ => ?_)
theorem shuttlecockref02_Nums.mono : ∀ a0 k, LeO (shuttlecockref02_Nums.f k a0) (shuttlecockref02_Nums.f (k + 1) a0) := by
 intro a0 k
 have ih0 := shuttlecockref02_Nums.mono_l k
 unfold shuttlecockref02_Nums.f
 repeat' first
   | (with_reducible exact ih0 _ _ _)
   | (with_reducible exact shuttlecockref01_Put.mono _ _)
   | (with_reducible exact LeO.refl _)
   | (with_reducible exact LeO.none _)
   | (with_reducible refine LeO.ite ?_ ?_)
   | (with_reducible refine LeO.bind ?_ (fun _ => ?_))
   | exact LeO.none _
   | refine LeO.ite ?_ ?_
   | refine LeO.bind ?_ (fun _ => ?_)
set_option maxHeartbeats 8000000 in
set_option maxRecDepth 100000 in
theorem shuttlecockref02_Nums.calls (k : Nat) (A0 : Option Addr) (c0 : Nat) (l0 : List Int) (r : ByteArray) (w : World) (hr0 : Kd.C (Kd.int .i64) w A0 l0.length l0) (hc0 : l0.length ≤ c0) (h : shuttlecockref02_Nums.f k l0 = some r) :
  Calls Try.prog 36 #[.slice A0 l0.length c0] w fun e w' => e = .returned (.string r) ∧ Below w.heap.size w w' := by
 have HR0 := Am hr0
 have HC0 := Am hc0
 clear hr0 hc0
 have HB := Am (Below.refl w.heap.size w)
 have H : (shuttlecockref02_Nums.l0 k l0 (⟨#[]⟩ : ByteArray) 0) = some r := h
 clear h
 have H' := Am H
 clear H
 go_enter Try.func36, Try.ntmps36
 go_wp2
 go_loopg [3, 4] k (fun kq v3 v4 w' => ∃ (x3_1 : ByteArray) (x4_1 : Int), v3 = .string x3_1 ∧ v4 = .int .i64 x4_1 ∧ Aside0 (shuttlecockref02_Nums.l0 kq l0 x3_1 x4_1 = some r) ∧ Aside0 (kq ≤ k) ∧ Aside0 (Below w.heap.size w w'))
 case atStart => exact ⟨((⟨#[]⟩ : ByteArray)), (0), (by first | rfl | (simp; done) | (simp [*]; done)), (by first | rfl | (simp; done) | (simp [*]; done)), H', ⟨Nat.le_refl _⟩, ⟨by repeat (first | (with_reducible first | exact HB.out | apply bl | apply pN | apply b1) | exact HB.out | exact HBo.out)⟩⟩
 case round =>
  clear H'
  obtain ⟨x3_1, x4_1, rfl, rfl, HA, HK1, HB⟩ := hrel
  cases gk with
  | zero => exact absurd HA.out (by simp [shuttlecockref02_Nums.l0])
  | succ k1 =>
   have H := HA.out
   clear HA
   simp only [shuttlecockref02_Nums.l0] at H
   by_cases c2 : x4_1 < (l0.length : Int)
   ·
    rw [if_pos c2] at H
    have c2b0 : decide (x4_1 < (l0.length : Int)) = true := decide_eq_true c2
    clear c2
    by_cases c3 : 0 ≤ x4_1
    ·
     rw [if_pos c3] at H
     have c3b0 : decide (0 ≤ x4_1) = true := decide_eq_true c3
     clear c3
     replace H := ob H
     obtain ⟨t350, A40, H⟩ := H
     (try dsimp only at H)
     have A4 := Am A40
     clear A40
     by_cases c5 : t350.toList = ([] : List UInt8)
     ·
      rw [if_pos c5] at H
      have c5b0 : (t350.toList == ([] : List UInt8)) = true := beq_iff_eq.mpr c5
      try have c5b9 : (t350.toList).isEmpty = true := List.isEmpty_iff.2 c5
      have c5b1 : (t350.toList != ([] : List UInt8)) = false := bne_eq_false_iff_eq.mpr c5
      clear c5
      obtain rfl := Option.some.inj H
      have p349 : 0 ≤ (x4_1 : Int) := of_decide_eq_true (by first | (with_reducible assumption) | assumption)
      have q349 : x4_1 < (l0.length : Int) := of_decide_eq_true (by first | (with_reducible assumption) | assumption)
      obtain ⟨ad349, e349, hx349_0⟩ := Kd.at_int HR0.out x4_1 p349 q349
      cases e349
      replace hx349_0 := (HB.out.cell (World.block_lt_of_cell? w _ hx349_0)).trans hx349_0
      replace p349 := eq_true p349
      replace q349 := eq_true q349
      go_wp2_with (first | ((with_reducible refine gate_callee (f := 55) rfl ?_); refine Own.gL_ (some 15) Try.func55 (#[.int .i64 (rd l0 x4_1)]) (h := ?_); (with_reducible refine (shuttlecockref01_Put.calls k1 (rd l0 x4_1) t350 _ A4.out).mono ?_); rintro e w6 ⟨rfl, hb⟩; refine ⟨_, rfl, ?_⟩; replace HB := Am (below_step (by repeat (first | (with_reducible first | exact HB.out | apply bl | apply pN | apply b1) | exact HB.out | exact HBo.out)) hb); clear hb))
      go_ret
      exact ⟨by first | rfl | (simp <;> rfl) | (simp [*] <;> rfl) | (simp [Aid.ne_nil, Aid.eq_nil]; done), by repeat (first | (with_reducible first | exact HB.out | apply bl | apply pN | apply b1) | exact HB.out | exact HBo.out)⟩
     ·
      rw [if_neg c5] at H
      have c5b0 : (t350.toList == ([] : List UInt8)) = false := beq_eq_false_iff_ne.mpr c5
      try have c5b9 : (t350.toList).isEmpty = false := (by rw [List.isEmpty_eq_false_iff]; exact c5)
      have c5b1 : (t350.toList != ([] : List UInt8)) = true := bne_iff_ne.mpr c5
      replace H := ob H
      obtain ⟨t352, A70, H⟩ := H
      (try dsimp only at H)
      have A7 := Am A70
      clear A70
      by_cases c8 : x3_1.size + t352.size ≤ 9223372036854775807
      ·
       rw [if_pos c8] at H
       have c8b0 := eq_true c8
       have c8b1 : decide (x3_1.size + t352.size ≤ 9223372036854775807) = true := decide_eq_true c8
       try have c8b2 : (9223372036854775807 < x3_1.size + t352.size) = False := eq_false (Nat.not_lt.2 c8)
       have H' := Am H
       clear H
       have p349 : 0 ≤ (x4_1 : Int) := of_decide_eq_true (by first | (with_reducible assumption) | assumption)
       have q349 : x4_1 < (l0.length : Int) := of_decide_eq_true (by first | (with_reducible assumption) | assumption)
       obtain ⟨ad349, e349, hx349_0⟩ := Kd.at_int HR0.out x4_1 p349 q349
       cases e349
       replace hx349_0 := (HB.out.cell (World.block_lt_of_cell? w _ hx349_0)).trans hx349_0
       replace p349 := eq_true p349
       replace q349 := eq_true q349
       go_wp2_with (first | ((with_reducible refine gate_callee (f := 55) rfl ?_); refine Own.gL_ (some 15) Try.func55 (#[.int .i64 (rd l0 x4_1)]) (h := ?_); (with_reducible refine (shuttlecockref01_Put.calls k1 (rd l0 x4_1) t350 _ A4.out).mono ?_); rintro e w9 ⟨rfl, hb⟩; refine ⟨_, rfl, ?_⟩; replace HB := Am (below_step (by repeat (first | (with_reducible first | exact HB.out | apply bl | apply pN | apply b1) | exact HB.out | exact HBo.out)) hb); clear hb; have p351 : 0 ≤ (x4_1 : Int) := of_decide_eq_true (by first | (with_reducible assumption) | assumption); have q351 : x4_1 < (l0.length : Int) := of_decide_eq_true (by first | (with_reducible assumption) | assumption); obtain ⟨ad351, e351, hx351_0⟩ := Kd.at_int HR0.out x4_1 p351 q351; obtain rfl : ad349 = ad351 := (by injection e351); replace hx351_0 := (HB.out.cell (World.block_lt_of_cell? w _ hx351_0)).trans hx351_0; replace p351 := eq_true p351; replace q351 := eq_true q351) | ((with_reducible refine gate_callee (f := 55) rfl ?_); refine Own.gL_ (some 22) Try.func55 (#[.int .i64 (rd l0 x4_1)]) (h := ?_); (with_reducible refine (shuttlecockref01_Put.calls k1 (rd l0 x4_1) t352 _ A7.out).mono ?_); rintro e w10 ⟨rfl, hb⟩; refine ⟨_, rfl, ?_⟩; replace HB := Am (below_step (by repeat (first | (with_reducible first | exact HB.out | apply bl | apply pN | apply b1) | exact HB.out | exact HBo.out)) hb); clear hb))
       go_roundg k1
       case measure => have := HK1.out; omega
       case rel => exact ⟨(x3_1 ++ t352), (wrap64 (x4_1 + 1)), (by first | rfl | (simp; done) | (simp [*]; done)), (by first | rfl | (simp; done) | (simp [*]; done)), H', ⟨by have := HK1.out; omega⟩, ⟨by repeat (first | (with_reducible first | exact HB.out | apply bl | apply pN | apply b1) | exact HB.out | exact HBo.out)⟩⟩
      ·
       rw [if_neg c8] at H
       exact absurd H (by simp)
    ·
     rw [if_neg c3] at H
     exact absurd H (by simp)
   ·
    rw [if_neg c2] at H
    have c2b0 : decide (x4_1 < (l0.length : Int)) = false := decide_eq_false c2
    clear c2
    obtain rfl := Option.some.inj H
    go_wp2
    go_ret
    exact ⟨by first | rfl | (simp <;> rfl) | (simp [*] <;> rfl) | (simp [Aid.ne_nil, Aid.eq_nil]; done), by repeat (first | (with_reducible first | exact HB.out | apply bl | apply pN | apply b1) | exact HB.out | exact HBo.out)⟩

/-! ### shuttlecockref02_Text: function 37 -/
def shuttlecockref02_Text.f (k : Nat) (a0 : ByteArray) : Option (ByteArray) := (shuttlecockref01_Put.f k (a0.size : Int)).bind fun t353 => (if t353.size + a0.size ≤ 9223372036854775807 then (some (t353 ++ a0)) else (none))
theorem shuttlecockref02_Text.mono : ∀ a0 k, LeO (shuttlecockref02_Text.f k a0) (shuttlecockref02_Text.f (k + 1) a0) := by
 intro a0 k
 unfold shuttlecockref02_Text.f
 repeat' first
   | (with_reducible exact shuttlecockref01_Put.mono _ _)
   | (with_reducible exact LeO.refl _)
   | (with_reducible exact LeO.none _)
   | (with_reducible refine LeO.ite ?_ ?_)
   | (with_reducible refine LeO.bind ?_ (fun _ => ?_))
   | exact LeO.none _
   | refine LeO.ite ?_ ?_
   | refine LeO.bind ?_ (fun _ => ?_)
set_option maxHeartbeats 8000000 in
set_option maxRecDepth 100000 in
theorem shuttlecockref02_Text.calls (k : Nat) (a0 : ByteArray) (r : ByteArray) (w : World) (h : shuttlecockref02_Text.f k a0 = some r) :
  Calls Try.prog 37 #[.string a0] w fun e w' => e = .returned (.string r) ∧ Below w.heap.size w w' := by
 have HB := Am (Below.refl w.heap.size w)
 have H : ((shuttlecockref01_Put.f k (a0.size : Int)).bind fun t353 => (if t353.size + a0.size ≤ 9223372036854775807 then (some (t353 ++ a0)) else (none))) = some r := h
 clear h
 replace H := ob H
 obtain ⟨t353, A20, H⟩ := H
 (try dsimp only at H)
 have A2 := Am A20
 clear A20
 by_cases c3 : t353.size + a0.size ≤ 9223372036854775807
 ·
  rw [if_pos c3] at H
  have c3b0 := eq_true c3
  have c3b1 : decide (t353.size + a0.size ≤ 9223372036854775807) = true := decide_eq_true c3
  try have c3b2 : (9223372036854775807 < t353.size + a0.size) = False := eq_false (Nat.not_lt.2 c3)
  obtain rfl := Option.some.inj H
  go_enter Try.func37, Try.ntmps37
  go_wp2_with (first | ((with_reducible refine gate_callee (f := 55) rfl ?_); refine Own.gL_ (some 5) Try.func55 (#[.int .i64 (a0.size : Int)]) (h := ?_); (with_reducible refine (shuttlecockref01_Put.calls k (a0.size : Int) t353 _ A2.out).mono ?_); rintro e w4 ⟨rfl, hb⟩; refine ⟨_, rfl, ?_⟩; replace HB := Am (below_step (by repeat (first | (with_reducible first | exact HB.out | apply bl | apply pN | apply b1) | exact HB.out | exact HBo.out)) hb); clear hb))
  go_ret
  exact ⟨by first | rfl | (simp <;> rfl) | (simp [*] <;> rfl) | (simp [Aid.ne_nil, Aid.eq_nil]; done), by repeat (first | (with_reducible first | exact HB.out | apply bl | apply pN | apply b1) | exact HB.out | exact HBo.out)⟩
 ·
  rw [if_neg c3] at H
  exact absurd H (by simp)

/-! ### shuttlecockref04_Encode: function 39 -/
def shuttlecockref04_Encode.f (k : Nat) (a0_0 : Int) (a0_1 : Int) (l0_2 : List Int) (a0_3 : ByteArray) : Option (ByteArray) := (shuttlecockref04_May.f k a0_0 a0_1 l0_2 a0_3).bind fun t355 => (if t355 = true then ((some (([(a0_0) % 256] : List Int) : List Int)).bind fun y356 => ((shuttlecockref01_Put.f k a0_1).bind fun t359 => (if (strOfNums y356).size + t359.size ≤ 9223372036854775807 then ((shuttlecockref03_Exp.f a0_0).bind fun t360 => (if t360 = true then ((shuttlecockref02_Text.f k a0_3).bind fun t361 => (if ((strOfNums y356) ++ t359).size + t361.size ≤ 9223372036854775807 then (some (((strOfNums y356) ++ t359) ++ t361)) else (none))) else ((shuttlecockref02_Nums.f k l0_2).bind fun t362 => (if ((strOfNums y356) ++ t359).size + t362.size ≤ 9223372036854775807 then (some (((strOfNums y356) ++ t359) ++ t362)) else (none))))) else (none)))) else (some (⟨#[]⟩ : ByteArray)))
theorem shuttlecockref04_Encode.mono : ∀ a0 a1 a2 a3 k, LeO (shuttlecockref04_Encode.f k a0 a1 a2 a3) (shuttlecockref04_Encode.f (k + 1) a0 a1 a2 a3) := by
 intro a0 a1 a2 a3 k
 unfold shuttlecockref04_Encode.f
 repeat' first
   | (with_reducible exact shuttlecockref01_Put.mono _ _)
   | (with_reducible exact shuttlecockref02_Nums.mono _ _)
   | (with_reducible exact shuttlecockref02_Text.mono _ _)
   | (with_reducible exact shuttlecockref04_May.mono _ _ _ _ _)
   | (with_reducible exact LeO.refl _)
   | (with_reducible exact LeO.none _)
   | (with_reducible refine LeO.ite ?_ ?_)
   | (with_reducible refine LeO.bind ?_ (fun _ => ?_))
   | exact LeO.none _
   | refine LeO.ite ?_ ?_
   | refine LeO.bind ?_ (fun _ => ?_)
def shuttlecockref04_Encode.T3 : Bool × List (List Nat × List Nat) := (true, [([], []), ([0], [0]), ([1], [1]), ([2], [2]), ([3], [3]), ([], []), ([5], [5]), ([6], [6]), ([4, 7], [4, 7]), ([8, 7, 0, 1, 2, 3, 4, 5, 6, 7, 8], [8])])
def shuttlecockref04_Encode.B3 : List Nat := [0, 1, 3, 7, 15, 0, 32, 96, 255, 511]
theorem shuttlecockref04_Encode.tab3 : rtab .any (opsOf Try.f39 3) = shuttlecockref04_Encode.T3 := by kernel_rfl
theorem shuttlecockref04_Encode.bits3 : waitsOk shuttlecockref04_Encode.T3.2 shuttlecockref04_Encode.B3 = true := by kernel_rfl
set_option maxHeartbeats 8000000 in
set_option maxRecDepth 100000 in
theorem shuttlecockref04_Encode.calls (k : Nat) (a0_0 : Int) (a0_1 : Int) (A0_2 : Option Addr) (c0_2 : Nat) (l0_2 : List Int) (a0_3 : ByteArray) (r : ByteArray) (w : World) (hr0_2 : Kd.C (Kd.int .i64) w A0_2 l0_2.length l0_2) (hc0_2 : l0_2.length ≤ c0_2) (h : shuttlecockref04_Encode.f k a0_0 a0_1 l0_2 a0_3 = some r) :
  Calls Try.prog 39 #[.agg #[.int .i64 a0_0, .int .i64 a0_1, .slice A0_2 l0_2.length c0_2, .string a0_3]] w fun e w' => e = .returned (.string r) ∧ Below w.heap.size w w' := by
 have hu41 := Try.underlying41
 have HR0_2 := Am hr0_2
 have HC0_2 := Am hc0_2
 clear hr0_2 hc0_2
 have HB := Am (Below.refl w.heap.size w)
 have H : ((shuttlecockref04_May.f k a0_0 a0_1 l0_2 a0_3).bind fun t355 => (if t355 = true then ((some (([(a0_0) % 256] : List Int) : List Int)).bind fun y356 => ((shuttlecockref01_Put.f k a0_1).bind fun t359 => (if (strOfNums y356).size + t359.size ≤ 9223372036854775807 then ((shuttlecockref03_Exp.f a0_0).bind fun t360 => (if t360 = true then ((shuttlecockref02_Text.f k a0_3).bind fun t361 => (if ((strOfNums y356) ++ t359).size + t361.size ≤ 9223372036854775807 then (some (((strOfNums y356) ++ t359) ++ t361)) else (none))) else ((shuttlecockref02_Nums.f k l0_2).bind fun t362 => (if ((strOfNums y356) ++ t359).size + t362.size ≤ 9223372036854775807 then (some (((strOfNums y356) ++ t359) ++ t362)) else (none))))) else (none)))) else (some (⟨#[]⟩ : ByteArray)))) = some r := h
 clear h
 replace H := ob H
 obtain ⟨t355, A20, H⟩ := H
 (try dsimp only at H)
 have A2 := Am A20
 clear A20
 by_cases c3 : t355 = true
 ·
  subst c3
  rw [if_pos rfl] at H
  obtain ⟨y356, hy356⟩ : ∃ y_ : List Int, y_ = (([(a0_0) % 256] : List Int)) := ⟨_, rfl⟩
  replace H : ((shuttlecockref01_Put.f k a0_1).bind fun t359 => (if (strOfNums y356).size + t359.size ≤ 9223372036854775807 then ((shuttlecockref03_Exp.f a0_0).bind fun t360 => (if t360 = true then ((shuttlecockref02_Text.f k a0_3).bind fun t361 => (if ((strOfNums y356) ++ t359).size + t361.size ≤ 9223372036854775807 then (some (((strOfNums y356) ++ t359) ++ t361)) else (none))) else ((shuttlecockref02_Nums.f k l0_2).bind fun t362 => (if ((strOfNums y356) ++ t359).size + t362.size ≤ 9223372036854775807 then (some (((strOfNums y356) ++ t359) ++ t362)) else (none))))) else (none))) = some r := by first | (rw [hy356]; with_reducible exact H) | (have H2_ := (Option.bind_some _ _).symm.trans H; rw [hy356]; with_reducible exact H2_) | (have H2_ := (Option.bind_some _ _).symm.trans H; with_reducible exact H2_) | with_reducible exact H | (rw [hy356]; exact H) | exact H
  have Ny356 := Am hy356
  clear hy356
  replace H := ob H
  obtain ⟨t359, A40, H⟩ := H
  (try dsimp only at H)
  have A4 := Am A40
  clear A40
  by_cases c5 : (strOfNums y356).size + t359.size ≤ 9223372036854775807
  ·
   rw [if_pos c5] at H
   have c5b0 := eq_true c5
   have c5b1 : decide ((strOfNums y356).size + t359.size ≤ 9223372036854775807) = true := decide_eq_true c5
   try have c5b2 : (9223372036854775807 < (strOfNums y356).size + t359.size) = False := eq_false (Nat.not_lt.2 c5)
   replace H := ob H
   obtain ⟨t360, A60, H⟩ := H
   (try dsimp only at H)
   have A6 := Am A60
   clear A60
   by_cases c7 : t360 = true
   ·
    subst c7
    rw [if_pos rfl] at H
    replace H := ob H
    obtain ⟨t361, A80, H⟩ := H
    (try dsimp only at H)
    have A8 := Am A80
    clear A80
    by_cases c9 : ((strOfNums y356) ++ t359).size + t361.size ≤ 9223372036854775807
    ·
     rw [if_pos c9] at H
     have c9b0 := eq_true c9
     have c9b1 : decide (((strOfNums y356) ++ t359).size + t361.size ≤ 9223372036854775807) = true := decide_eq_true c9
     try have c9b2 : (9223372036854775807 < ((strOfNums y356) ++ t359).size + t361.size) = False := eq_false (Nat.not_lt.2 c9)
     try (have c9b3 := c9b2; simp only [ByteArray.size_append] at c9b3)
     try (have c9b4 := c9b1; simp only [ByteArray.size_append] at c9b4)
     obtain rfl := Option.some.inj H
     go_enter Try.func39, Try.ntmps39
     try go_wp2_with (first | ((with_reducible refine gate_dst (N := 1) rfl ?_); refine box_event ?hg (N := 1) ?hd (cs := #[.int .i64 a0_0, .int .i64 a0_1, .slice A0_2 l0_2.length c0_2, .string a0_3]) (t := 41) ?hr ?_; (case hd => rfl); (case hg => rfl); (case hr => first | (go_simp; done) | (go_simp; rfl)); intro gb354 hg w10 hbox hb; have BK354 := Am (hbox); have GW354 := Am ((by rw [hg]; exact (below_size (by repeat (first | (with_reducible first | exact HB.out | apply bl | apply pN | apply b1) | exact HB.out | exact HBo.out))) : w.heap.size ≤ gb354)); have GE354 := GW354; replace HB := Am (below_step (by repeat (first | (with_reducible first | exact HB.out | apply bl | apply pN | apply b1) | exact HB.out | exact HBo.out)) hb); clear hb hbox hg; have hcz11_0 := Own.bc2 BK354.out 0; have hcz11_1 := Own.bc2 BK354.out 1; have hcz11_2 := Own.bc2 BK354.out 2; have hcz11_3 := Own.bc2 BK354.out 3; have hfz11_0 := bf BK354.out 0; have hfz11_1 := bf BK354.out 1; have hfz11_2 := bf BK354.out 2; have hfz11_3 := bf BK354.out 3) | ((with_reducible refine gate_callee (f := 21) rfl ?_); refine Own.gL_ (some 5) Try.func21 (#[.agg #[.int .i64 a0_0, .int .i64 a0_1, .slice A0_2 l0_2.length c0_2, .string a0_3]]) (h := ?_); (with_reducible refine (shuttlecockref04_May.calls k a0_0 a0_1 _ _ l0_2 a0_3 true _ ?side1 ?side2 A2.out).mono ?_); (case side1 => repeat (first | exact (Kd.C_below HR0_2.out HB.out) | (with_reducible refine Kd.C_alloc ?_ _) | (with_reducible refine Kd.C_drewN ?_ _) | (with_reducible refine Kd.C_drew ?_))); (case side2 => exact HC0_2.out); rintro e w12 ⟨rfl, hb⟩; refine ⟨_, rfl, ?_⟩; replace BK354 := Am (blk_below (g := gb354) (o := .cells #[.int .i64 a0_0, .int .i64 a0_1, .slice A0_2 l0_2.length c0_2, .string a0_3] 41 (0, 0)) (by (with_reducible repeat (first|apply bn|apply bd|apply ba)); exact BK354.out) hb); replace HB := Am (below_step (by repeat (first | (with_reducible first | exact HB.out | apply bl | apply pN | apply b1 | refine bs ?_ GE354.out) | exact HB.out | exact HBo.out)) hb); clear hb))
     replace BK354 := Am (bd BK354.out)
     replace HB := Am (b1 HB.out)
     refine start_ (n := 10) (S := fun w' => w'.cell? ⟨gb354, 0, none⟩ = some (.int .i64 a0_0) ∧ w'.cell? ⟨gb354, 1, none⟩ = some (.int .i64 a0_1) ∧ w'.cell? ⟨gb354, 2, none⟩ = some (.slice A0_2 l0_2.length c0_2) ∧ w'.cell? ⟨gb354, 3, none⟩ = some (.string a0_3)) (ds := []) q8_0 (by kernel_rfl) rfl rfl ⟨(bc BK354.out 0).trans rfl, (bc BK354.out 1).trans rfl, (bc BK354.out 2).trans rfl, (bc BK354.out 3).trans rfl⟩ (fun hHeld => ?_); refine with_tabW shuttlecockref04_Encode.tab3 shuttlecockref04_Encode.bits3 (fun HT_ HW_ => ?_)
     generalize w12.drew = w13 at BK354 HB hHeld ⊢
     refine Own.pr_ 0 (some 7) q8_1 HT_ (h := ?_)
     refine Own.pr_ 5 (some 12) q8_2 HT_ (h := ?_)
     refine Own.tk_ 1 (some 8) q8_3 HT_ HW_ hHeld (hy := by rintro w' ⟨s0, s1, s2, s3⟩; go_simp; with_reducible rfl) (h := ?_)
     refine Own.pr_ 2 (some 9) q8_4 HT_ (h := ?_)
     refine Own.tk_ 6 (some 13) q8_5 HT_ HW_ hHeld (hy := by rintro w' ⟨s0, s1, s2, s3⟩; go_simp; with_reducible rfl) (h := ?_)
     refine join_ (σ := Value) 2 q8_6 (fun s_ => [(10, s_), (11, .string (strOfNums y356)), (14, .string t359)]) (fun s_ w' => (w'.cell? ⟨gb354, 0, none⟩ = some (.int .i64 a0_0) ∧ w'.cell? ⟨gb354, 1, none⟩ = some (.int .i64 a0_1) ∧ w'.cell? ⟨gb354, 2, none⟩ = some (.slice A0_2 l0_2.length c0_2) ∧ w'.cell? ⟨gb354, 3, none⟩ = some (.string a0_3)) ∧ (Kd.R (Kd.int .u8) 5 w' w.heap.size (fun _ => True) s_ y356) ∧ (w'.heap[gb354]? = some (.cells #[.int .i64 a0_0, .int .i64 a0_1, .slice A0_2 l0_2.length c0_2, .string a0_3] 41 (0, 0))) ∧ (Below w.heap.size w w')) ?_ ?_
     rotate_left
     ·
      intro hCont
      refine two_ (i := 3) (j := 7) (Ni := some 10) (Nj := some 14) q8_7 q8_8 rfl rfl rfl rfl (two_of HT_.out (by kernel_rfl)) (by decide) (by decide) (fun K hK => ?_) (fun K hK => ?_)
      ·
       skip
       refine Kd.R_lit_step (Kd.int .u8) _ 5 ?hg (N := 10) ?hd (xs := ([(a0_0) % 256] : List Int)) (inner := [.int .u8 ((a0_0) % 256)]) (ok := fun _ => True) (okp := fun _ => True) ?hr ?hp (fun _ hk => hk) trivial (Below.refl _ _) (Nat.le_refl _) (by simp) ?_; (case hd => rfl); (case hg => rfl); (case hr => first | (go_simp; done) | (go_simp; rfl)); (case hp => exact (Reps.one (show Kd.M (Kd.int .u8) _ _ _ ((a0_0) % 256) [.int .u8 ((a0_0) % 256)] from rfl) (Reps.none _ _)))
       intro v357 w14 ho15 hb hg_ hnew_
       clear hg_ hnew_
       (first | rw [← Ny356.out] at ho15 | (simp only [Int.reduceToNat] at ho15; rw [← Ny356.out] at ho15))
       have HO358 := Am (Kd.R_lower ho15 (below_size (by repeat (first | (with_reducible first | exact HB.out | apply bl | apply pN | apply b1 | refine bs ?_ GE354.out) | exact HB.out | exact HBo.out))))
       replace BK354 := Am (blk_below (g := gb354) (o := .cells #[.int .i64 a0_0, .int .i64 a0_1, .slice A0_2 l0_2.length c0_2, .string a0_3] 41 (0, 0)) (by (with_reducible repeat (first|apply bn|apply bd|apply ba)); exact BK354.out) hb)
       replace HB := Am (below_step (by repeat (first | (with_reducible first | exact HB.out | apply bl | apply pN | apply b1 | refine bs ?_ GE354.out) | exact HB.out | exact HBo.out)) hb)
       clear hb ho15
       refine hK.out _ _ ⟨(bc BK354.out 0).trans rfl, (bc BK354.out 1).trans rfl, (bc BK354.out 2).trans rfl, (bc BK354.out 3).trans rfl⟩ (fun hHeld => ?_)
       clear hK K
       refine norm_ (a' := ?_) ?_ ?_
       rotate_left
       ·
        show Act.put _ (some 10) _ = _
        simp only [Act.put, sI, sZ, sS, i64_w, i32_w]
        rfl
       refine two_ (i := 4) (j := 7) (Ni := some 11) (Nj := some 14) q8_9 q8_10 rfl rfl rfl rfl (two_of HT_.out (by kernel_rfl)) (by decide) (by decide) (fun K hK => ?_) (fun K hK => ?_)
       ·
        skip
        have hcv16 := own_string (P := Try.prog) Try.underlying76 Try.underlying5 Try.underlying9 (Kd.own_of_R HO358.out)
        refine value_ (w1 := ?_) (v := ?_) (by rfl) rfl ?_ ?_
        rotate_left 2
        ·
         go_simp
         constructor
         ·
          rfl
         ·
          rfl
        clear hcv16
        refine hK.out _ _ ⟨(bc BK354.out 0).trans rfl, (bc BK354.out 1).trans rfl, (bc BK354.out 2).trans rfl, (bc BK354.out 3).trans rfl⟩ (fun hHeld => ?_)
        clear hK K
        refine norm_ (a' := ?_) ?_ ?_
        rotate_left
        ·
         show Act.put _ (some 11) _ = _
         simp only [Act.put, sI, sZ, sS, i64_w, i32_w]
         rfl
        refine one_ (i := 7) (N := some 14) q8_6 rfl rfl (one_of HT_.out (by kernel_rfl)) (by decide) (fun K hK => ?_)
        refine goes_ Try.func55 (by kernel_rfl) rfl #[.int .i64 a0_1] (by rfl) rfl rfl (by (try simp only [List.map_toArray, List.map_cons, List.map_nil]); first | done | rfl | (simp only [List.length_drop, List.length_take]; rfl)) ?_
        with_reducible refine (shuttlecockref01_Put.calls k a0_1 t359 _ A4.out).mono ?_
        rintro e w17 ⟨rfl, hb⟩
        refine ⟨_, rfl, ?_⟩
        replace HO358 := Am (Kd.R_below (by (with_reducible repeat (first | apply Kd.R_alloc | apply Kd.R_drewN | apply Kd.R_drew)); exact HO358.out) hb)
        replace BK354 := Am (blk_below (g := gb354) (o := .cells #[.int .i64 a0_0, .int .i64 a0_1, .slice A0_2 l0_2.length c0_2, .string a0_3] 41 (0, 0)) (by (with_reducible repeat (first|apply bn|apply bd|apply ba)); exact BK354.out) hb)
        replace HB := Am (below_step (by repeat (first | (with_reducible first | exact HB.out | apply bl | apply pN | apply b1 | refine bs ?_ GE354.out) | exact HB.out | exact HBo.out)) hb)
        (try clear hb)
        (try clear hb2)
        (try clear hk)
        (try clear hi)
        refine hK.out _ _ ⟨(bc BK354.out 0).trans rfl, (bc BK354.out 1).trans rfl, (bc BK354.out 2).trans rfl, (bc BK354.out 3).trans rfl⟩ (fun hHeld => ?_)
        clear hK K
        refine norm_ (a' := ?_) ?_ ?_
        rotate_left
        ·
         show Act.put _ (some 14) _ = _
         simp only [Act.put, sI, sZ, sS, i64_w, i32_w]
         rfl
        exact norm_ (by simp only [putAll, Act.put, sI, sZ, sS]) (hCont (v357) _ ⟨hHeld, (by (with_reducible repeat (first | apply Kd.R_alloc | apply Kd.R_drewN | apply Kd.R_drew)); exact HO358.out), (by (with_reducible repeat (first|apply bn|apply bd|apply ba)); exact BK354.out), (by repeat (first | (with_reducible first | exact HB.out | apply bl | apply pN | apply b1 | refine bs ?_ GE354.out) | exact HB.out | exact HBo.out))⟩)
       ·
        skip
        refine goes_ Try.func55 (by kernel_rfl) rfl #[.int .i64 a0_1] (by rfl) rfl rfl (by (try simp only [List.map_toArray, List.map_cons, List.map_nil]); first | done | rfl | (simp only [List.length_drop, List.length_take]; rfl)) ?_
        with_reducible refine (shuttlecockref01_Put.calls k a0_1 t359 _ A4.out).mono ?_
        rintro e w16 ⟨rfl, hb⟩
        refine ⟨_, rfl, ?_⟩
        replace HO358 := Am (Kd.R_below (by (with_reducible repeat (first | apply Kd.R_alloc | apply Kd.R_drewN | apply Kd.R_drew)); exact HO358.out) hb)
        replace BK354 := Am (blk_below (g := gb354) (o := .cells #[.int .i64 a0_0, .int .i64 a0_1, .slice A0_2 l0_2.length c0_2, .string a0_3] 41 (0, 0)) (by (with_reducible repeat (first|apply bn|apply bd|apply ba)); exact BK354.out) hb)
        replace HB := Am (below_step (by repeat (first | (with_reducible first | exact HB.out | apply bl | apply pN | apply b1 | refine bs ?_ GE354.out) | exact HB.out | exact HBo.out)) hb)
        (try clear hb)
        (try clear hb2)
        (try clear hk)
        (try clear hi)
        refine hK.out _ _ ⟨(bc BK354.out 0).trans rfl, (bc BK354.out 1).trans rfl, (bc BK354.out 2).trans rfl, (bc BK354.out 3).trans rfl⟩ (fun hHeld => ?_)
        clear hK K
        refine norm_ (a' := ?_) ?_ ?_
        rotate_left
        ·
         show Act.put _ (some 14) _ = _
         simp only [Act.put, sI, sZ, sS, i64_w, i32_w]
         rfl
        refine one_ (i := 4) (N := some 11) q8_6 rfl rfl (one_of HT_.out (by kernel_rfl)) (by decide) (fun K hK => ?_)
        have hcv17 := own_string (P := Try.prog) Try.underlying76 Try.underlying5 Try.underlying9 (Kd.own_of_R HO358.out)
        refine value_ (w1 := ?_) (v := ?_) (by rfl) rfl ?_ ?_
        rotate_left 2
        ·
         go_simp
         constructor
         ·
          rfl
         ·
          rfl
        clear hcv17
        refine hK.out _ _ ⟨(bc BK354.out 0).trans rfl, (bc BK354.out 1).trans rfl, (bc BK354.out 2).trans rfl, (bc BK354.out 3).trans rfl⟩ (fun hHeld => ?_)
        clear hK K
        refine norm_ (a' := ?_) ?_ ?_
        rotate_left
        ·
         show Act.put _ (some 11) _ = _
         simp only [Act.put, sI, sZ, sS, i64_w, i32_w]
         rfl
        exact norm_ (by simp only [putAll, Act.put, sI, sZ, sS]) (hCont (v357) _ ⟨hHeld, (by (with_reducible repeat (first | apply Kd.R_alloc | apply Kd.R_drewN | apply Kd.R_drew)); exact HO358.out), (by (with_reducible repeat (first|apply bn|apply bd|apply ba)); exact BK354.out), (by repeat (first | (with_reducible first | exact HB.out | apply bl | apply pN | apply b1 | refine bs ?_ GE354.out) | exact HB.out | exact HBo.out))⟩)
      ·
       skip
       refine goes_ Try.func55 (by kernel_rfl) rfl #[.int .i64 a0_1] (by rfl) rfl rfl (by (try simp only [List.map_toArray, List.map_cons, List.map_nil]); first | done | rfl | (simp only [List.length_drop, List.length_take]; rfl)) ?_
       with_reducible refine (shuttlecockref01_Put.calls k a0_1 t359 _ A4.out).mono ?_
       rintro e w14 ⟨rfl, hb⟩
       refine ⟨_, rfl, ?_⟩
       replace BK354 := Am (blk_below (g := gb354) (o := .cells #[.int .i64 a0_0, .int .i64 a0_1, .slice A0_2 l0_2.length c0_2, .string a0_3] 41 (0, 0)) (by (with_reducible repeat (first|apply bn|apply bd|apply ba)); exact BK354.out) hb)
       replace HB := Am (below_step (by repeat (first | (with_reducible first | exact HB.out | apply bl | apply pN | apply b1 | refine bs ?_ GE354.out) | exact HB.out | exact HBo.out)) hb)
       (try clear hb)
       (try clear hb2)
       (try clear hk)
       (try clear hi)
       refine hK.out _ _ ⟨(bc BK354.out 0).trans rfl, (bc BK354.out 1).trans rfl, (bc BK354.out 2).trans rfl, (bc BK354.out 3).trans rfl⟩ (fun hHeld => ?_)
       clear hK K
       refine norm_ (a' := ?_) ?_ ?_
       rotate_left
       ·
        show Act.put _ (some 14) _ = _
        simp only [Act.put, sI, sZ, sS, i64_w, i32_w]
        rfl
       refine one_ (i := 3) (N := some 10) q8_10 rfl rfl (one_of HT_.out (by kernel_rfl)) (by decide) (fun K hK => ?_)
       refine Kd.R_lit_step (Kd.int .u8) _ 5 ?hg (N := 10) ?hd (xs := ([(a0_0) % 256] : List Int)) (inner := [.int .u8 ((a0_0) % 256)]) (ok := fun _ => True) (okp := fun _ => True) ?hr ?hp (fun _ hk => hk) trivial (Below.refl _ _) (Nat.le_refl _) (by simp) ?_; (case hd => rfl); (case hg => rfl); (case hr => first | (go_simp; done) | (go_simp; rfl)); (case hp => exact (Reps.one (show Kd.M (Kd.int .u8) _ _ _ ((a0_0) % 256) [.int .u8 ((a0_0) % 256)] from rfl) (Reps.none _ _)))
       intro v357 w15 ho16 hb hg_ hnew_
       clear hg_ hnew_
       (first | rw [← Ny356.out] at ho16 | (simp only [Int.reduceToNat] at ho16; rw [← Ny356.out] at ho16))
       have HO358 := Am (Kd.R_lower ho16 (below_size (by repeat (first | (with_reducible first | exact HB.out | apply bl | apply pN | apply b1 | refine bs ?_ GE354.out) | exact HB.out | exact HBo.out))))
       replace BK354 := Am (blk_below (g := gb354) (o := .cells #[.int .i64 a0_0, .int .i64 a0_1, .slice A0_2 l0_2.length c0_2, .string a0_3] 41 (0, 0)) (by (with_reducible repeat (first|apply bn|apply bd|apply ba)); exact BK354.out) hb)
       replace HB := Am (below_step (by repeat (first | (with_reducible first | exact HB.out | apply bl | apply pN | apply b1 | refine bs ?_ GE354.out) | exact HB.out | exact HBo.out)) hb)
       clear hb ho16
       refine hK.out _ _ ⟨(bc BK354.out 0).trans rfl, (bc BK354.out 1).trans rfl, (bc BK354.out 2).trans rfl, (bc BK354.out 3).trans rfl⟩ (fun hHeld => ?_)
       clear hK K
       refine norm_ (a' := ?_) ?_ ?_
       rotate_left
       ·
        show Act.put _ (some 10) _ = _
        simp only [Act.put, sI, sZ, sS, i64_w, i32_w]
        rfl
       refine one_ (i := 4) (N := some 11) q8_6 rfl rfl (one_of HT_.out (by kernel_rfl)) (by decide) (fun K hK => ?_)
       have hcv17 := own_string (P := Try.prog) Try.underlying76 Try.underlying5 Try.underlying9 (Kd.own_of_R HO358.out)
       refine value_ (w1 := ?_) (v := ?_) (by rfl) rfl ?_ ?_
       rotate_left 2
       ·
        go_simp
        constructor
        ·
         rfl
        ·
         rfl
       clear hcv17
       refine hK.out _ _ ⟨(bc BK354.out 0).trans rfl, (bc BK354.out 1).trans rfl, (bc BK354.out 2).trans rfl, (bc BK354.out 3).trans rfl⟩ (fun hHeld => ?_)
       clear hK K
       refine norm_ (a' := ?_) ?_ ?_
       rotate_left
       ·
        show Act.put _ (some 11) _ = _
        simp only [Act.put, sI, sZ, sS, i64_w, i32_w]
        rfl
       exact norm_ (by simp only [putAll, Act.put, sI, sZ, sS]) (hCont (v357) _ ⟨hHeld, (by (with_reducible repeat (first | apply Kd.R_alloc | apply Kd.R_drewN | apply Kd.R_drew)); exact HO358.out), (by (with_reducible repeat (first|apply bn|apply bd|apply ba)); exact BK354.out), (by repeat (first | (with_reducible first | exact HB.out | apply bl | apply pN | apply b1 | refine bs ?_ GE354.out) | exact HB.out | exact HBo.out))⟩)
     rintro v357 w18 ⟨hS_, h0_, h1_, h2_⟩
     have n0_ : Aside0 (Kd.R (Kd.int .u8) 5 w18 w.heap.size (fun _ => True) v357 y356) := ⟨h0_⟩
     have n1_ : Aside0 (w18.heap[gb354]? = some (.cells #[.int .i64 a0_0, .int .i64 a0_1, .slice A0_2 l0_2.length c0_2, .string a0_3] 41 (0, 0))) := ⟨h1_⟩
     have n2_ : Aside0 (Below w.heap.size w w18) := ⟨h2_⟩
     clear BK354
     clear HB
     clear h0_ h1_ h2_
     have HO358 := n0_
     have BK354 := n1_
     have HB := n2_
     clear n0_ n1_ n2_
     have hHeld : w18.cell? ⟨gb354, 0, none⟩ = some (.int .i64 a0_0) ∧ w18.cell? ⟨gb354, 1, none⟩ = some (.int .i64 a0_1) ∧ w18.cell? ⟨gb354, 2, none⟩ = some (.slice A0_2 l0_2.length c0_2) ∧ w18.cell? ⟨gb354, 3, none⟩ = some (.string a0_3) := hS_
     refine norm_ (a' := ?_) ?_ ?_
     rotate_left
     ·
      simp only [putAll, Act.put, sI, sZ, sS]
      rfl
     refine Own.pr_ 8 (some 15) q8_11 HT_ (h := ?_)
     refine Own.pr_ 9 (some 3) q8_12 HT_ (h := ?_)
     refine done_ (done_of HT_.out (by kernel_rfl)) ?_
     have hcz19_0 := Own.bc2 BK354.out 0
     have hcz19_1 := Own.bc2 BK354.out 1
     have hcz19_2 := Own.bc2 BK354.out 2
     have hcz19_3 := Own.bc2 BK354.out 3
     have hfz19_0 := bf BK354.out 0
     have hfz19_1 := bf BK354.out 1
     have hfz19_2 := bf BK354.out 2
     have hfz19_3 := bf BK354.out 3
     try go_wp2_with (first | ((with_reducible refine gate_callee (f := 40) rfl ?_); refine Own.gL_ (some 18) Try.func40 (#[.int .i64 a0_0]) (h := ?_); (with_reducible refine (shuttlecockref03_Exp.calls a0_0 true _ A6.out).mono ?_); rintro e w' ⟨rfl, ⟨nd, rfl⟩⟩; refine ⟨_, rfl, ?_⟩) | ((with_reducible refine gate_callee (f := 37) rfl ?_); refine Own.gL_ (some 22) Try.func37 (#[.string a0_3]) (h := ?_); (with_reducible refine (shuttlecockref02_Text.calls k a0_3 t361 _ A8.out).mono ?_); rintro e w20 ⟨rfl, hb⟩; refine ⟨_, rfl, ?_⟩; replace HO358 := Am (Kd.R_below (by (with_reducible repeat (first | apply Kd.R_alloc | apply Kd.R_drewN | apply Kd.R_drew)); exact HO358.out) hb); replace BK354 := Am (blk_below (g := gb354) (o := .cells #[.int .i64 a0_0, .int .i64 a0_1, .slice A0_2 l0_2.length c0_2, .string a0_3] 41 (0, 0)) (by (with_reducible repeat (first|apply bn|apply bd|apply ba)); exact BK354.out) hb); replace HB := Am (below_step (by repeat (first | (with_reducible first | exact HB.out | apply bl | apply pN | apply b1 | refine bs ?_ GE354.out) | exact HB.out | exact HBo.out)) hb); clear hb))
     go_ret
     exact ⟨by first | rfl | (simp <;> rfl) | (simp [*] <;> rfl) | (simp [Aid.ne_nil, Aid.eq_nil]; done), by repeat (first | (with_reducible first | exact HB.out | apply bl | apply pN | apply b1 | refine bs ?_ GE354.out) | exact HB.out | exact HBo.out)⟩
    ·
     rw [if_neg c9] at H
     exact absurd H (by simp)
   ·
    replace c7 := Bool.eq_false_iff.mpr c7
    subst c7
    rw [if_neg (show ¬ (false = true) by decide)] at H
    replace H := ob H
    obtain ⟨t362, A210, H⟩ := H
    (try dsimp only at H)
    have A21 := Am A210
    clear A210
    by_cases c22 : ((strOfNums y356) ++ t359).size + t362.size ≤ 9223372036854775807
    ·
     rw [if_pos c22] at H
     have c22b0 := eq_true c22
     have c22b1 : decide (((strOfNums y356) ++ t359).size + t362.size ≤ 9223372036854775807) = true := decide_eq_true c22
     try have c22b2 : (9223372036854775807 < ((strOfNums y356) ++ t359).size + t362.size) = False := eq_false (Nat.not_lt.2 c22)
     try (have c22b3 := c22b2; simp only [ByteArray.size_append] at c22b3)
     try (have c22b4 := c22b1; simp only [ByteArray.size_append] at c22b4)
     obtain rfl := Option.some.inj H
     go_enter Try.func39, Try.ntmps39
     try go_wp2_with (first | ((with_reducible refine gate_dst (N := 1) rfl ?_); refine box_event ?hg (N := 1) ?hd (cs := #[.int .i64 a0_0, .int .i64 a0_1, .slice A0_2 l0_2.length c0_2, .string a0_3]) (t := 41) ?hr ?_; (case hd => rfl); (case hg => rfl); (case hr => first | (go_simp; done) | (go_simp; rfl)); intro gb354 hg w23 hbox hb; have BK354 := Am (hbox); have GW354 := Am ((by rw [hg]; exact (below_size (by repeat (first | (with_reducible first | exact HB.out | apply bl | apply pN | apply b1) | exact HB.out | exact HBo.out))) : w.heap.size ≤ gb354)); have GE354 := GW354; replace HB := Am (below_step (by repeat (first | (with_reducible first | exact HB.out | apply bl | apply pN | apply b1) | exact HB.out | exact HBo.out)) hb); clear hb hbox hg; have hcz24_0 := Own.bc2 BK354.out 0; have hcz24_1 := Own.bc2 BK354.out 1; have hcz24_2 := Own.bc2 BK354.out 2; have hcz24_3 := Own.bc2 BK354.out 3; have hfz24_0 := bf BK354.out 0; have hfz24_1 := bf BK354.out 1; have hfz24_2 := bf BK354.out 2; have hfz24_3 := bf BK354.out 3) | ((with_reducible refine gate_callee (f := 21) rfl ?_); refine Own.gL_ (some 5) Try.func21 (#[.agg #[.int .i64 a0_0, .int .i64 a0_1, .slice A0_2 l0_2.length c0_2, .string a0_3]]) (h := ?_); (with_reducible refine (shuttlecockref04_May.calls k a0_0 a0_1 _ _ l0_2 a0_3 true _ ?side1 ?side2 A2.out).mono ?_); (case side1 => repeat (first | exact (Kd.C_below HR0_2.out HB.out) | (with_reducible refine Kd.C_alloc ?_ _) | (with_reducible refine Kd.C_drewN ?_ _) | (with_reducible refine Kd.C_drew ?_))); (case side2 => exact HC0_2.out); rintro e w25 ⟨rfl, hb⟩; refine ⟨_, rfl, ?_⟩; replace BK354 := Am (blk_below (g := gb354) (o := .cells #[.int .i64 a0_0, .int .i64 a0_1, .slice A0_2 l0_2.length c0_2, .string a0_3] 41 (0, 0)) (by (with_reducible repeat (first|apply bn|apply bd|apply ba)); exact BK354.out) hb); replace HB := Am (below_step (by repeat (first | (with_reducible first | exact HB.out | apply bl | apply pN | apply b1 | refine bs ?_ GE354.out) | exact HB.out | exact HBo.out)) hb); clear hb))
     replace BK354 := Am (bd BK354.out)
     replace HB := Am (b1 HB.out)
     refine start_ (n := 10) (S := fun w' => w'.cell? ⟨gb354, 0, none⟩ = some (.int .i64 a0_0) ∧ w'.cell? ⟨gb354, 1, none⟩ = some (.int .i64 a0_1) ∧ w'.cell? ⟨gb354, 2, none⟩ = some (.slice A0_2 l0_2.length c0_2) ∧ w'.cell? ⟨gb354, 3, none⟩ = some (.string a0_3)) (ds := []) q8_0 (by kernel_rfl) rfl rfl ⟨(bc BK354.out 0).trans rfl, (bc BK354.out 1).trans rfl, (bc BK354.out 2).trans rfl, (bc BK354.out 3).trans rfl⟩ (fun hHeld => ?_); refine with_tabW shuttlecockref04_Encode.tab3 shuttlecockref04_Encode.bits3 (fun HT_ HW_ => ?_)
     generalize w25.drew = w26 at BK354 HB hHeld ⊢
     refine Own.pr_ 0 (some 7) q8_1 HT_ (h := ?_)
     refine Own.pr_ 5 (some 12) q8_2 HT_ (h := ?_)
     refine Own.tk_ 1 (some 8) q8_3 HT_ HW_ hHeld (hy := by rintro w' ⟨s0, s1, s2, s3⟩; go_simp; with_reducible rfl) (h := ?_)
     refine Own.pr_ 2 (some 9) q8_4 HT_ (h := ?_)
     refine Own.tk_ 6 (some 13) q8_5 HT_ HW_ hHeld (hy := by rintro w' ⟨s0, s1, s2, s3⟩; go_simp; with_reducible rfl) (h := ?_)
     refine join_ (σ := Value) 2 q8_6 (fun s_ => [(10, s_), (11, .string (strOfNums y356)), (14, .string t359)]) (fun s_ w' => (w'.cell? ⟨gb354, 0, none⟩ = some (.int .i64 a0_0) ∧ w'.cell? ⟨gb354, 1, none⟩ = some (.int .i64 a0_1) ∧ w'.cell? ⟨gb354, 2, none⟩ = some (.slice A0_2 l0_2.length c0_2) ∧ w'.cell? ⟨gb354, 3, none⟩ = some (.string a0_3)) ∧ (Kd.R (Kd.int .u8) 5 w' w.heap.size (fun _ => True) s_ y356) ∧ (w'.heap[gb354]? = some (.cells #[.int .i64 a0_0, .int .i64 a0_1, .slice A0_2 l0_2.length c0_2, .string a0_3] 41 (0, 0))) ∧ (Below w.heap.size w w')) ?_ ?_
     rotate_left
     ·
      intro hCont
      refine two_ (i := 3) (j := 7) (Ni := some 10) (Nj := some 14) q8_7 q8_8 rfl rfl rfl rfl (two_of HT_.out (by kernel_rfl)) (by decide) (by decide) (fun K hK => ?_) (fun K hK => ?_)
      ·
       skip
       refine Kd.R_lit_step (Kd.int .u8) _ 5 ?hg (N := 10) ?hd (xs := ([(a0_0) % 256] : List Int)) (inner := [.int .u8 ((a0_0) % 256)]) (ok := fun _ => True) (okp := fun _ => True) ?hr ?hp (fun _ hk => hk) trivial (Below.refl _ _) (Nat.le_refl _) (by simp) ?_; (case hd => rfl); (case hg => rfl); (case hr => first | (go_simp; done) | (go_simp; rfl)); (case hp => exact (Reps.one (show Kd.M (Kd.int .u8) _ _ _ ((a0_0) % 256) [.int .u8 ((a0_0) % 256)] from rfl) (Reps.none _ _)))
       intro v357 w27 ho28 hb hg_ hnew_
       clear hg_ hnew_
       (first | rw [← Ny356.out] at ho28 | (simp only [Int.reduceToNat] at ho28; rw [← Ny356.out] at ho28))
       have HO358 := Am (Kd.R_lower ho28 (below_size (by repeat (first | (with_reducible first | exact HB.out | apply bl | apply pN | apply b1 | refine bs ?_ GE354.out) | exact HB.out | exact HBo.out))))
       replace BK354 := Am (blk_below (g := gb354) (o := .cells #[.int .i64 a0_0, .int .i64 a0_1, .slice A0_2 l0_2.length c0_2, .string a0_3] 41 (0, 0)) (by (with_reducible repeat (first|apply bn|apply bd|apply ba)); exact BK354.out) hb)
       replace HB := Am (below_step (by repeat (first | (with_reducible first | exact HB.out | apply bl | apply pN | apply b1 | refine bs ?_ GE354.out) | exact HB.out | exact HBo.out)) hb)
       clear hb ho28
       refine hK.out _ _ ⟨(bc BK354.out 0).trans rfl, (bc BK354.out 1).trans rfl, (bc BK354.out 2).trans rfl, (bc BK354.out 3).trans rfl⟩ (fun hHeld => ?_)
       clear hK K
       refine norm_ (a' := ?_) ?_ ?_
       rotate_left
       ·
        show Act.put _ (some 10) _ = _
        simp only [Act.put, sI, sZ, sS, i64_w, i32_w]
        rfl
       refine two_ (i := 4) (j := 7) (Ni := some 11) (Nj := some 14) q8_9 q8_10 rfl rfl rfl rfl (two_of HT_.out (by kernel_rfl)) (by decide) (by decide) (fun K hK => ?_) (fun K hK => ?_)
       ·
        skip
        have hcv29 := own_string (P := Try.prog) Try.underlying76 Try.underlying5 Try.underlying9 (Kd.own_of_R HO358.out)
        refine value_ (w1 := ?_) (v := ?_) (by rfl) rfl ?_ ?_
        rotate_left 2
        ·
         go_simp
         constructor
         ·
          rfl
         ·
          rfl
        clear hcv29
        refine hK.out _ _ ⟨(bc BK354.out 0).trans rfl, (bc BK354.out 1).trans rfl, (bc BK354.out 2).trans rfl, (bc BK354.out 3).trans rfl⟩ (fun hHeld => ?_)
        clear hK K
        refine norm_ (a' := ?_) ?_ ?_
        rotate_left
        ·
         show Act.put _ (some 11) _ = _
         simp only [Act.put, sI, sZ, sS, i64_w, i32_w]
         rfl
        refine one_ (i := 7) (N := some 14) q8_6 rfl rfl (one_of HT_.out (by kernel_rfl)) (by decide) (fun K hK => ?_)
        refine goes_ Try.func55 (by kernel_rfl) rfl #[.int .i64 a0_1] (by rfl) rfl rfl (by (try simp only [List.map_toArray, List.map_cons, List.map_nil]); first | done | rfl | (simp only [List.length_drop, List.length_take]; rfl)) ?_
        with_reducible refine (shuttlecockref01_Put.calls k a0_1 t359 _ A4.out).mono ?_
        rintro e w30 ⟨rfl, hb⟩
        refine ⟨_, rfl, ?_⟩
        replace HO358 := Am (Kd.R_below (by (with_reducible repeat (first | apply Kd.R_alloc | apply Kd.R_drewN | apply Kd.R_drew)); exact HO358.out) hb)
        replace BK354 := Am (blk_below (g := gb354) (o := .cells #[.int .i64 a0_0, .int .i64 a0_1, .slice A0_2 l0_2.length c0_2, .string a0_3] 41 (0, 0)) (by (with_reducible repeat (first|apply bn|apply bd|apply ba)); exact BK354.out) hb)
        replace HB := Am (below_step (by repeat (first | (with_reducible first | exact HB.out | apply bl | apply pN | apply b1 | refine bs ?_ GE354.out) | exact HB.out | exact HBo.out)) hb)
        (try clear hb)
        (try clear hb2)
        (try clear hk)
        (try clear hi)
        refine hK.out _ _ ⟨(bc BK354.out 0).trans rfl, (bc BK354.out 1).trans rfl, (bc BK354.out 2).trans rfl, (bc BK354.out 3).trans rfl⟩ (fun hHeld => ?_)
        clear hK K
        refine norm_ (a' := ?_) ?_ ?_
        rotate_left
        ·
         show Act.put _ (some 14) _ = _
         simp only [Act.put, sI, sZ, sS, i64_w, i32_w]
         rfl
        exact norm_ (by simp only [putAll, Act.put, sI, sZ, sS]) (hCont (v357) _ ⟨hHeld, (by (with_reducible repeat (first | apply Kd.R_alloc | apply Kd.R_drewN | apply Kd.R_drew)); exact HO358.out), (by (with_reducible repeat (first|apply bn|apply bd|apply ba)); exact BK354.out), (by repeat (first | (with_reducible first | exact HB.out | apply bl | apply pN | apply b1 | refine bs ?_ GE354.out) | exact HB.out | exact HBo.out))⟩)
       ·
        skip
        refine goes_ Try.func55 (by kernel_rfl) rfl #[.int .i64 a0_1] (by rfl) rfl rfl (by (try simp only [List.map_toArray, List.map_cons, List.map_nil]); first | done | rfl | (simp only [List.length_drop, List.length_take]; rfl)) ?_
        with_reducible refine (shuttlecockref01_Put.calls k a0_1 t359 _ A4.out).mono ?_
        rintro e w29 ⟨rfl, hb⟩
        refine ⟨_, rfl, ?_⟩
        replace HO358 := Am (Kd.R_below (by (with_reducible repeat (first | apply Kd.R_alloc | apply Kd.R_drewN | apply Kd.R_drew)); exact HO358.out) hb)
        replace BK354 := Am (blk_below (g := gb354) (o := .cells #[.int .i64 a0_0, .int .i64 a0_1, .slice A0_2 l0_2.length c0_2, .string a0_3] 41 (0, 0)) (by (with_reducible repeat (first|apply bn|apply bd|apply ba)); exact BK354.out) hb)
        replace HB := Am (below_step (by repeat (first | (with_reducible first | exact HB.out | apply bl | apply pN | apply b1 | refine bs ?_ GE354.out) | exact HB.out | exact HBo.out)) hb)
        (try clear hb)
        (try clear hb2)
        (try clear hk)
        (try clear hi)
        refine hK.out _ _ ⟨(bc BK354.out 0).trans rfl, (bc BK354.out 1).trans rfl, (bc BK354.out 2).trans rfl, (bc BK354.out 3).trans rfl⟩ (fun hHeld => ?_)
        clear hK K
        refine norm_ (a' := ?_) ?_ ?_
        rotate_left
        ·
         show Act.put _ (some 14) _ = _
         simp only [Act.put, sI, sZ, sS, i64_w, i32_w]
         rfl
        refine one_ (i := 4) (N := some 11) q8_6 rfl rfl (one_of HT_.out (by kernel_rfl)) (by decide) (fun K hK => ?_)
        have hcv30 := own_string (P := Try.prog) Try.underlying76 Try.underlying5 Try.underlying9 (Kd.own_of_R HO358.out)
        refine value_ (w1 := ?_) (v := ?_) (by rfl) rfl ?_ ?_
        rotate_left 2
        ·
         go_simp
         constructor
         ·
          rfl
         ·
          rfl
        clear hcv30
        refine hK.out _ _ ⟨(bc BK354.out 0).trans rfl, (bc BK354.out 1).trans rfl, (bc BK354.out 2).trans rfl, (bc BK354.out 3).trans rfl⟩ (fun hHeld => ?_)
        clear hK K
        refine norm_ (a' := ?_) ?_ ?_
        rotate_left
        ·
         show Act.put _ (some 11) _ = _
         simp only [Act.put, sI, sZ, sS, i64_w, i32_w]
         rfl
        exact norm_ (by simp only [putAll, Act.put, sI, sZ, sS]) (hCont (v357) _ ⟨hHeld, (by (with_reducible repeat (first | apply Kd.R_alloc | apply Kd.R_drewN | apply Kd.R_drew)); exact HO358.out), (by (with_reducible repeat (first|apply bn|apply bd|apply ba)); exact BK354.out), (by repeat (first | (with_reducible first | exact HB.out | apply bl | apply pN | apply b1 | refine bs ?_ GE354.out) | exact HB.out | exact HBo.out))⟩)
      ·
       skip
       refine goes_ Try.func55 (by kernel_rfl) rfl #[.int .i64 a0_1] (by rfl) rfl rfl (by (try simp only [List.map_toArray, List.map_cons, List.map_nil]); first | done | rfl | (simp only [List.length_drop, List.length_take]; rfl)) ?_
       with_reducible refine (shuttlecockref01_Put.calls k a0_1 t359 _ A4.out).mono ?_
       rintro e w27 ⟨rfl, hb⟩
       refine ⟨_, rfl, ?_⟩
       replace BK354 := Am (blk_below (g := gb354) (o := .cells #[.int .i64 a0_0, .int .i64 a0_1, .slice A0_2 l0_2.length c0_2, .string a0_3] 41 (0, 0)) (by (with_reducible repeat (first|apply bn|apply bd|apply ba)); exact BK354.out) hb)
       replace HB := Am (below_step (by repeat (first | (with_reducible first | exact HB.out | apply bl | apply pN | apply b1 | refine bs ?_ GE354.out) | exact HB.out | exact HBo.out)) hb)
       (try clear hb)
       (try clear hb2)
       (try clear hk)
       (try clear hi)
       refine hK.out _ _ ⟨(bc BK354.out 0).trans rfl, (bc BK354.out 1).trans rfl, (bc BK354.out 2).trans rfl, (bc BK354.out 3).trans rfl⟩ (fun hHeld => ?_)
       clear hK K
       refine norm_ (a' := ?_) ?_ ?_
       rotate_left
       ·
        show Act.put _ (some 14) _ = _
        simp only [Act.put, sI, sZ, sS, i64_w, i32_w]
        rfl
       refine one_ (i := 3) (N := some 10) q8_10 rfl rfl (one_of HT_.out (by kernel_rfl)) (by decide) (fun K hK => ?_)
       refine Kd.R_lit_step (Kd.int .u8) _ 5 ?hg (N := 10) ?hd (xs := ([(a0_0) % 256] : List Int)) (inner := [.int .u8 ((a0_0) % 256)]) (ok := fun _ => True) (okp := fun _ => True) ?hr ?hp (fun _ hk => hk) trivial (Below.refl _ _) (Nat.le_refl _) (by simp) ?_; (case hd => rfl); (case hg => rfl); (case hr => first | (go_simp; done) | (go_simp; rfl)); (case hp => exact (Reps.one (show Kd.M (Kd.int .u8) _ _ _ ((a0_0) % 256) [.int .u8 ((a0_0) % 256)] from rfl) (Reps.none _ _)))
       intro v357 w28 ho29 hb hg_ hnew_
       clear hg_ hnew_
       (first | rw [← Ny356.out] at ho29 | (simp only [Int.reduceToNat] at ho29; rw [← Ny356.out] at ho29))
       have HO358 := Am (Kd.R_lower ho29 (below_size (by repeat (first | (with_reducible first | exact HB.out | apply bl | apply pN | apply b1 | refine bs ?_ GE354.out) | exact HB.out | exact HBo.out))))
       replace BK354 := Am (blk_below (g := gb354) (o := .cells #[.int .i64 a0_0, .int .i64 a0_1, .slice A0_2 l0_2.length c0_2, .string a0_3] 41 (0, 0)) (by (with_reducible repeat (first|apply bn|apply bd|apply ba)); exact BK354.out) hb)
       replace HB := Am (below_step (by repeat (first | (with_reducible first | exact HB.out | apply bl | apply pN | apply b1 | refine bs ?_ GE354.out) | exact HB.out | exact HBo.out)) hb)
       clear hb ho29
       refine hK.out _ _ ⟨(bc BK354.out 0).trans rfl, (bc BK354.out 1).trans rfl, (bc BK354.out 2).trans rfl, (bc BK354.out 3).trans rfl⟩ (fun hHeld => ?_)
       clear hK K
       refine norm_ (a' := ?_) ?_ ?_
       rotate_left
       ·
        show Act.put _ (some 10) _ = _
        simp only [Act.put, sI, sZ, sS, i64_w, i32_w]
        rfl
       refine one_ (i := 4) (N := some 11) q8_6 rfl rfl (one_of HT_.out (by kernel_rfl)) (by decide) (fun K hK => ?_)
       have hcv30 := own_string (P := Try.prog) Try.underlying76 Try.underlying5 Try.underlying9 (Kd.own_of_R HO358.out)
       refine value_ (w1 := ?_) (v := ?_) (by rfl) rfl ?_ ?_
       rotate_left 2
       ·
        go_simp
        constructor
        ·
         rfl
        ·
         rfl
       clear hcv30
       refine hK.out _ _ ⟨(bc BK354.out 0).trans rfl, (bc BK354.out 1).trans rfl, (bc BK354.out 2).trans rfl, (bc BK354.out 3).trans rfl⟩ (fun hHeld => ?_)
       clear hK K
       refine norm_ (a' := ?_) ?_ ?_
       rotate_left
       ·
        show Act.put _ (some 11) _ = _
        simp only [Act.put, sI, sZ, sS, i64_w, i32_w]
        rfl
       exact norm_ (by simp only [putAll, Act.put, sI, sZ, sS]) (hCont (v357) _ ⟨hHeld, (by (with_reducible repeat (first | apply Kd.R_alloc | apply Kd.R_drewN | apply Kd.R_drew)); exact HO358.out), (by (with_reducible repeat (first|apply bn|apply bd|apply ba)); exact BK354.out), (by repeat (first | (with_reducible first | exact HB.out | apply bl | apply pN | apply b1 | refine bs ?_ GE354.out) | exact HB.out | exact HBo.out))⟩)
     rintro v357 w31 ⟨hS_, h0_, h1_, h2_⟩
     have n0_ : Aside0 (Kd.R (Kd.int .u8) 5 w31 w.heap.size (fun _ => True) v357 y356) := ⟨h0_⟩
     have n1_ : Aside0 (w31.heap[gb354]? = some (.cells #[.int .i64 a0_0, .int .i64 a0_1, .slice A0_2 l0_2.length c0_2, .string a0_3] 41 (0, 0))) := ⟨h1_⟩
     have n2_ : Aside0 (Below w.heap.size w w31) := ⟨h2_⟩
     clear BK354
     clear HB
     clear h0_ h1_ h2_
     have HO358 := n0_
     have BK354 := n1_
     have HB := n2_
     clear n0_ n1_ n2_
     have hHeld : w31.cell? ⟨gb354, 0, none⟩ = some (.int .i64 a0_0) ∧ w31.cell? ⟨gb354, 1, none⟩ = some (.int .i64 a0_1) ∧ w31.cell? ⟨gb354, 2, none⟩ = some (.slice A0_2 l0_2.length c0_2) ∧ w31.cell? ⟨gb354, 3, none⟩ = some (.string a0_3) := hS_
     refine norm_ (a' := ?_) ?_ ?_
     rotate_left
     ·
      simp only [putAll, Act.put, sI, sZ, sS]
      rfl
     refine Own.pr_ 8 (some 15) q8_11 HT_ (h := ?_)
     refine Own.pr_ 9 (some 3) q8_12 HT_ (h := ?_)
     refine done_ (done_of HT_.out (by kernel_rfl)) ?_
     have hcz32_0 := Own.bc2 BK354.out 0
     have hcz32_1 := Own.bc2 BK354.out 1
     have hcz32_2 := Own.bc2 BK354.out 2
     have hcz32_3 := Own.bc2 BK354.out 3
     have hfz32_0 := bf BK354.out 0
     have hfz32_1 := bf BK354.out 1
     have hfz32_2 := bf BK354.out 2
     have hfz32_3 := bf BK354.out 3
     try go_wp2_with (first | ((with_reducible refine gate_callee (f := 40) rfl ?_); refine Own.gL_ (some 18) Try.func40 (#[.int .i64 a0_0]) (h := ?_); (with_reducible refine (shuttlecockref03_Exp.calls a0_0 false _ A6.out).mono ?_); rintro e w' ⟨rfl, ⟨nd, rfl⟩⟩; refine ⟨_, rfl, ?_⟩) | ((with_reducible refine gate_callee (f := 36) rfl ?_); refine Own.gL_ (some 27) Try.func36 (#[.slice A0_2 l0_2.length c0_2]) (h := ?_); (with_reducible refine (shuttlecockref02_Nums.calls k _ _ l0_2 t362 _ ?side1 ?side2 A21.out).mono ?_); (case side1 => repeat (first | exact (Kd.C_below HR0_2.out (by repeat (first | (with_reducible first | exact HB.out | apply bl | apply pN | apply b1 | refine bs ?_ GE354.out) | exact HB.out | exact HBo.out))) | (with_reducible refine Kd.C_alloc ?_ _) | (with_reducible refine Kd.C_drewN ?_ _) | (with_reducible refine Kd.C_drew ?_))); (case side2 => exact HC0_2.out); rintro e w33 ⟨rfl, hb⟩; refine ⟨_, rfl, ?_⟩; replace HO358 := Am (Kd.R_below (by (with_reducible repeat (first | apply Kd.R_alloc | apply Kd.R_drewN | apply Kd.R_drew)); exact HO358.out) hb); replace BK354 := Am (blk_below (g := gb354) (o := .cells #[.int .i64 a0_0, .int .i64 a0_1, .slice A0_2 l0_2.length c0_2, .string a0_3] 41 (0, 0)) (by (with_reducible repeat (first|apply bn|apply bd|apply ba)); exact BK354.out) hb); replace HB := Am (below_step (by repeat (first | (with_reducible first | exact HB.out | apply bl | apply pN | apply b1 | refine bs ?_ GE354.out) | exact HB.out | exact HBo.out)) hb); clear hb))
     go_ret
     exact ⟨by first | rfl | (simp <;> rfl) | (simp [*] <;> rfl) | (simp [Aid.ne_nil, Aid.eq_nil]; done), by repeat (first | (with_reducible first | exact HB.out | apply bl | apply pN | apply b1 | refine bs ?_ GE354.out) | exact HB.out | exact HBo.out)⟩
    ·
     rw [if_neg c22] at H
     exact absurd H (by simp)
  ·
   rw [if_neg c5] at H
   exact absurd H (by simp)
 ·
  replace c3 := Bool.eq_false_iff.mpr c3
  subst c3
  rw [if_neg (show ¬ (false = true) by decide)] at H
  obtain rfl := Option.some.inj H
  go_enter Try.func39, Try.ntmps39
  go_wp2_with (first | ((with_reducible refine gate_dst (N := 1) rfl ?_); refine box_event ?hg (N := 1) ?hd (cs := #[.int .i64 a0_0, .int .i64 a0_1, .slice A0_2 l0_2.length c0_2, .string a0_3]) (t := 41) ?hr ?_; (case hd => rfl); (case hg => rfl); (case hr => first | (go_simp; done) | (go_simp; rfl)); intro gb354 hg w34 hbox hb; have BK354 := Am (hbox); have GW354 := Am ((by rw [hg]; exact (below_size (by repeat (first | (with_reducible first | exact HB.out | apply bl | apply pN | apply b1) | exact HB.out | exact HBo.out))) : w.heap.size ≤ gb354)); have GE354 := GW354; replace HB := Am (below_step (by repeat (first | (with_reducible first | exact HB.out | apply bl | apply pN | apply b1) | exact HB.out | exact HBo.out)) hb); clear hb hbox hg; have hcz35_0 := Own.bc2 BK354.out 0; have hcz35_1 := Own.bc2 BK354.out 1; have hcz35_2 := Own.bc2 BK354.out 2; have hcz35_3 := Own.bc2 BK354.out 3; have hfz35_0 := bf BK354.out 0; have hfz35_1 := bf BK354.out 1; have hfz35_2 := bf BK354.out 2; have hfz35_3 := bf BK354.out 3) | ((with_reducible refine gate_callee (f := 21) rfl ?_); refine Own.gL_ (some 5) Try.func21 (#[.agg #[.int .i64 a0_0, .int .i64 a0_1, .slice A0_2 l0_2.length c0_2, .string a0_3]]) (h := ?_); (with_reducible refine (shuttlecockref04_May.calls k a0_0 a0_1 _ _ l0_2 a0_3 false _ ?side1 ?side2 A2.out).mono ?_); (case side1 => repeat (first | exact (Kd.C_below HR0_2.out HB.out) | (with_reducible refine Kd.C_alloc ?_ _) | (with_reducible refine Kd.C_drewN ?_ _) | (with_reducible refine Kd.C_drew ?_))); (case side2 => exact HC0_2.out); rintro e w36 ⟨rfl, hb⟩; refine ⟨_, rfl, ?_⟩; replace BK354 := Am (blk_below (g := gb354) (o := .cells #[.int .i64 a0_0, .int .i64 a0_1, .slice A0_2 l0_2.length c0_2, .string a0_3] 41 (0, 0)) (by (with_reducible repeat (first|apply bn|apply bd|apply ba)); exact BK354.out) hb); replace HB := Am (below_step (by repeat (first | (with_reducible first | exact HB.out | apply bl | apply pN | apply b1 | refine bs ?_ GE354.out) | exact HB.out | exact HBo.out)) hb); clear hb))
  go_ret
  exact ⟨by first | rfl | (simp <;> rfl) | (simp [*] <;> rfl) | (simp [Aid.ne_nil, Aid.eq_nil]; done), by repeat (first | (with_reducible first | exact HB.out | apply bl | apply pN | apply b1 | refine bs ?_ GE354.out) | exact HB.out | exact HBo.out)⟩

end Go.Proofs.Ytfcombimnmkoeaa.Q
