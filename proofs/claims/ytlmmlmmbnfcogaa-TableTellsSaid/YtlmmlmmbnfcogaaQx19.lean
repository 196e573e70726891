-- printed by a program of this session (NOTES: hprint); not the kit's print
-- minified3
-- minified2
-- minified
-- halved
import Derived.Test.YtlmmlmmbnfcogaaOg
import Derived.Test.YtlmmlmmbnfcogaaAl
import Derived.Test.YtlmmlmmbnfcogaaQx0
import Derived.Test.YtlmmlmmbnfcogaaQx11
import Derived.Test.YtlmmlmmbnfcogaaQx18
namespace Go.Proofs.Ytlmmlmmbnfcogaa.Q
open Go.RowKit Go.Proofs.YtlmmlmmbnfcogaaW.PrintWords Go.Proofs.YtlmmlmmbnfcogaaW.PrintLast Go.Proofs.YtlmmlmmbnfcogaaW.PrintMore
attribute [local go_sem] max2_int min2_int max_two min_two max_three min_three max_four min_four   -- for this text's walks alone
set_option linter.unusedVariables false
set_option linter.unusedSimpArgs false

def q19_0 : Array Bool := let o := true; let z := false; #[z,z,z,z,z,z,z,z,z,z,z,z,z,z,z,z,z,z,z,z]
def q19_1 : Array Bool := let o := true; let z := false; #[o,z,z,z,z,z,z,z,z,z,z,z,z,z,z,z,z,z,z,z]
def q19_2 : Array Bool := let o := true; let z := false; #[o,o,z,z,z,z,z,z,z,z,z,z,z,z,z,z,z,z,z,z]
def q19_3 : Array Bool := let o := true; let z := false; #[o,o,o,z,z,z,z,z,z,z,z,z,z,z,z,z,z,z,z,z]
def q19_4 : Array Bool := let o := true; let z := false; #[o,o,o,o,z,z,z,z,z,z,z,z,z,z,z,z,z,z,z,z]
def q19_5 : Array Bool := let o := true; let z := false; #[o,o,o,o,z,z,z,o,z,z,z,z,z,z,z,z,z,z,z,z]
def q19_6 : Array Bool := let o := true; let z := false; #[o,o,o,o,z,z,z,o,z,o,z,z,z,z,z,z,z,z,z,z]
def q19_7 : Array Bool := let o := true; let z := false; #[o,o,o,o,z,z,z,o,z,o,o,z,z,z,z,z,z,z,z,z]
def q19_8 : Array Bool := let o := true; let z := false; #[o,o,o,o,z,z,z,o,z,o,o,o,z,z,z,z,z,z,z,z]
def q19_9 : Array Bool := let o := true; let z := false; #[o,o,o,o,o,z,z,o,z,o,o,o,z,z,z,z,z,z,z,z]
def q19_10 : Array Bool := let o := true; let z := false; #[o,o,o,o,o,z,z,o,o,o,o,o,z,z,z,z,z,z,z,z]
def q19_11 : Array Bool := let o := true; let z := false; #[o,o,o,o,o,z,z,o,o,o,o,o,o,z,z,z,z,z,z,z]
def q19_12 : Array Bool := let o := true; let z := false; #[o,o,o,o,o,z,z,o,o,o,o,o,o,o,z,z,z,z,z,z]
def q19_13 : Array Bool := let o := true; let z := false; #[o,o,o,o,o,z,z,o,o,o,o,o,o,o,o,z,z,z,z,z]
def q19_14 : Array Bool := let o := true; let z := false; #[o,o,o,o,o,z,z,o,o,o,o,o,o,o,o,o,z,z,z,z]
def q19_15 : Array Bool := let o := true; let z := false; #[o,o,o,o,o,o,z,o,o,o,o,o,o,o,o,o,z,z,z,z]
def q19_16 : Array Bool := let o := true; let z := false; #[o,o,o,o,o,o,o,o,o,o,o,o,o,o,o,o,z,z,z,z]
def q19_17 : Array Bool := let o := true; let z := false; #[o,o,o,o,o,o,o,o,o,o,o,o,o,o,o,o,o,z,z,z]
def q19_18 : Array Bool := let o := true; let z := false; #[o,o,o,o,o,o,o,o,o,o,o,o,o,o,o,o,o,o,z,z]
def q19_19 : Array Bool := let o := true; let z := false; #[o,o,o,o,o,o,o,o,o,o,o,o,o,o,o,o,o,o,o,z]
def q19_20 : Array Bool := let o := true; let z := false; #[o,o,o,o,o,o,o,o,o,o,o,o,o,o,o,o,o,o,o,o]
def q19_21 : Array Bool := let o := true; let z := false; #[z,z,z,z,z,z,z,z,z,z]
def q19_22 : Array Bool := let o := true; let z := false; #[o,z,z,z,z,z,z,z,z,z]
def q19_23 : Array Bool := let o := true; let z := false; #[o,z,o,z,z,z,z,z,z,z]
def q19_24 : Array Bool := let o := true; let z := false; #[o,z,o,o,z,z,z,z,z,z]
def q19_25 : Array Bool := let o := true; let z := false; #[o,z,o,o,o,z,z,z,z,z]
def q19_26 : Array Bool := let o := true; let z := false; #[o,o,o,o,o,z,z,z,z,z]
def q19_27 : Array Bool := let o := true; let z := false; #[o,o,o,o,o,o,z,z,z,z]
def q19_28 : Array Bool := let o := true; let z := false; #[o,o,o,o,o,o,o,z,z,z]
def q19_29 : Array Bool := let o := true; let z := false; #[o,o,o,o,o,o,o,o,z,z]
def q19_30 : Array Bool := let o := true; let z := false; #[o,o,o,o,o,o,o,o,o,z]
def q19_31 : Array Bool := let o := true; let z := false; #[o,o,o,o,o,o,o,o,o,o]
def q19_32 : Array Bool := let o := true; let z := false; #[z,z,z,z,z,z,z,z,z,z,z,z,z,z,z]
def q19_33 : Array Bool := let o := true; let z := false; #[o,z,z,z,z,z,z,z,z,z,z,z,z,z,z]
def q19_34 : Array Bool := let o := true; let z := false; #[o,o,z,z,z,z,z,z,z,z,z,z,z,z,z]
def q19_35 : Array Bool := let o := true; let z := false; #[o,o,o,z,z,z,z,z,z,z,z,z,z,z,z]
def q19_36 : Array Bool := let o := true; let z := false; #[o,o,o,o,z,z,z,z,z,z,z,z,z,z,z]
def q19_37 : Array Bool := let o := true; let z := false; #[o,o,o,o,o,z,z,z,z,z,z,z,z,z,z]
def q19_38 : Array Bool := let o := true; let z := false; #[o,o,o,o,o,z,o,z,z,z,z,z,z,z,z]
def q19_39 : Array Bool := let o := true; let z := false; #[o,o,o,o,o,z,o,o,z,z,z,z,z,z,z]
def q19_40 : Array Bool := let o := true; let z := false; #[o,o,o,o,o,z,o,o,o,z,z,z,z,z,z]
def q19_41 : Array Bool := let o := true; let z := false; #[o,o,o,o,o,z,o,o,o,o,z,z,z,z,z]
def q19_42 : Array Bool := let o := true; let z := false; #[o,o,o,o,o,o,o,o,o,o,z,z,z,z,z]
def q19_43 : Array Bool := let o := true; let z := false; #[o,o,o,o,o,o,o,o,o,o,o,z,z,z,z]
def q19_44 : Array Bool := let o := true; let z := false; #[o,o,o,o,o,o,o,o,o,o,o,o,z,z,z]
def q19_45 : Array Bool := let o := true; let z := false; #[o,o,o,o,o,o,o,o,o,o,o,o,o,z,z]
def q19_46 : Array Bool := let o := true; let z := false; #[o,o,o,o,o,o,o,o,o,o,o,o,o,o,z]
def q19_47 : Array Bool := let o := true; let z := false; #[o,o,o,o,o,o,o,o,o,o,o,o,o,o,o]
/-! ### shuttlecockref07_Order: function 14 -/
mutual
def shuttlecockref07_Order.j0 : Nat → List Int → List Int → Bool → List ByteArray → List (List (S70)) → Option (ByteArray)
 | 0, _, _, _, _, _ => none
 | k + 1, x1, x2, x30, x340000, x340001 => if x30 = true then (some (⟨#[]⟩ : ByteArray)) else ((shuttlecockref02_Nums.f k (([(x1.length : Int)] : List Int))).bind fun t346 => (shuttlecockref07_Order.l0 k x1 x2 t346 0 x340000 x340001))
def shuttlecockref07_Order.l0 : Nat → List Int → List Int → ByteArray → Int → List ByteArray → List (List (S70)) → Option (ByteArray)
 | 0, _, _, _, _, _, _ => none
 | k + 1, x1, x2, x7, x8, x340000, x340001 => if x8 < (x1.length : Int) then (if 0 ≤ x8 then ((shuttlecockref02_Nums.f k (([rd x1 x8] : List Int))).bind fun t351 => (if 0 ≤ (wrap64 ((rd x1 x8) - 1)) then (if (wrap64 ((rd x1 x8) - 1)) < (x340000.length : Int) then ((shuttlecockref02_Text.f k (rdOf ByteArray.empty x340000 (wrap64 ((rd x1 x8) - 1)))).bind fun t354 => (if t351.size + t354.size ≤ 9223372036854775807 then (if x7.size + (t351 ++ t354).size ≤ 9223372036854775807 then (shuttlecockref07_Order.l0 k x1 x2 (x7 ++ (t351 ++ t354)) (wrap64 (x8 + 1)) x340000 x340001) else (none)) else (none))) else (none)) else (none))) else (none)) else ((shuttlecockref02_Nums.f k (([(x2.length : Int)] : List Int))).bind fun t358 => (if x7.size + t358.size ≤ 9223372036854775807 then (shuttlecockref07_Order.l1 k x2 (x7 ++ t358) 0 x340000 x340001) else (none)))
def shuttlecockref07_Order.l1 : Nat → List Int → ByteArray → Int → List ByteArray → List (List (S70)) → Option (ByteArray)
 | 0, _, _, _, _, _ => none
 | k + 1, x2, x7, x9, x340000, x340001 => if x9 < (x2.length : Int) then (if 0 ≤ x9 then (if 0 ≤ (wrap64 ((rd x2 x9) - 1)) then (if (wrap64 ((rd x2 x9) - 1)) < (x340001.length : Int) then ((shuttlecockref02_Nums.f k (([rd x2 x9, ((rd_L2 x340001 (wrap64 ((rd x2 x9) - 1))).length : Int)] : List Int))).bind fun t365 => (if x7.size + t365.size ≤ 9223372036854775807 then (shuttlecockref07_Order.l2 k x2 (x7 ++ t365) x9 (rd_L2 x340001 (wrap64 ((rd x2 x9) - 1))) 0 x340000 x340001) else (none))) else (none)) else (none)) else (none)) else (some x7)
def shuttlecockref07_Order.l2 : Nat → List Int → ByteArray → Int → List (S70) → Int → List ByteArray → List (List (S70)) → Option (ByteArray)
 | 0, _, _, _, _, _, _, _ => none
 | k + 1, x2, x7, x9, x10, x11, x340000, x340001 => if x11 < (x10.length : Int) then (if 0 ≤ x11 then ((shuttlecockref02_Nums.f k (([(rd_T70 x10 x11).f0, (rd_T70 x10 x11).f1] : List Int))).bind fun t371 => (if x7.size + t371.size ≤ 9223372036854775807 then (shuttlecockref07_Order.l2 k x2 (x7 ++ t371) x9 x10 (wrap64 (x11 + 1)) x340000 x340001) else (none))) else (none)) else (shuttlecockref07_Order.l1 k x2 x7 (wrap64 (x9 + 1)) x340000 x340001)
end
def shuttlecockref07_Order.f (k : Nat) (l0_0 : List ByteArray) (l0_1 : List (List (S70))) (l1 : List Int) (l2 : List Int) : Option (ByteArray) := (shuttlecockref06_May.f k l0_0 l0_1).bind fun t340 => (if t340 = true then ((shuttlecockref07_each.f k l1 (l0_0.length : Int)).bind fun t341 => (if t341 = true then ((shuttlecockref07_each.f k l2 (l0_1.length : Int)).bind fun t342 => (shuttlecockref07_Order.j0 k l1 l2 (!t342) l0_0 l0_1)) else (shuttlecockref07_Order.j0 k l1 l2 true l0_0 l0_1))) else (shuttlecockref07_Order.j0 k l1 l2 true l0_0 l0_1))
theorem shuttlecockref07_Order.mono_l : ∀ k, (∀ y0 y1 y2 y3 y4, LeO (shuttlecockref07_Order.j0 k y0 y1 y2 y3 y4) (shuttlecockref07_Order.j0 (k + 1) y0 y1 y2 y3 y4)) ∧ (∀ y0 y1 y2 y3 y4 y5, LeO (shuttlecockref07_Order.l0 k y0 y1 y2 y3 y4 y5) (shuttlecockref07_Order.l0 (k + 1) y0 y1 y2 y3 y4 y5)) ∧ (∀ y0 y1 y2 y3 y4, LeO (shuttlecockref07_Order.l1 k y0 y1 y2 y3 y4) (shuttlecockref07_Order.l1 (k + 1) y0 y1 y2 y3 y4)) ∧ (∀ y0 y1 y2 y3 y4 y5 y6, LeO (shuttlecockref07_Order.l2 k y0 y1 y2 y3 y4 y5 y6) (shuttlecockref07_Order.l2 (k + 1) y0 y1 y2 y3 y4 y5 y6))
 | 0 => ⟨fun _ _ _ _ _ r h => by simp [shuttlecockref07_Order.j0] at h, fun _ _ _ _ _ _ r h => by simp [shuttlecockref07_Order.l0] at h, fun _ _ _ _ _ r h => by simp [shuttlecockref07_Order.l1] at h, fun _ _ _ _ _ _ _ r h => by simp [shuttlecockref07_Order.l2] at h⟩
 | k + 1 => by
  obtain ⟨ih0, ih1, ih2, ih3⟩ := shuttlecockref07_Order.mono_l k
  refine ⟨?_, ?_, ?_, ?_⟩
  ·
   intro y0 y1 y2 y3 y4
   unfold shuttlecockref07_Order.j0
   repeat' first
   | (with_reducible exact ih0 _ _ _ _ _)
   | (with_reducible exact ih1 _ _ _ _ _ _)
   | (with_reducible exact ih2 _ _ _ _ _)
   | (with_reducible exact ih3 _ _ _ _ _ _ _)
   | (with_reducible exact shuttlecockref02_Nums.mono _ _)
   | (with_reducible exact shuttlecockref02_Text.mono _ _)
   | (with_reducible exact shuttlecockref06_May.mono _ _ _)
   | (with_reducible exact shuttlecockref07_each.mono _ _ _)
   | (with_reducible exact LeO.refl _)
   | (with_reducible exact LeO.none _)
   | (with_reducible refine LeO.ite ?_ ?_)
   | (with_reducible refine LeO.bind ?_ (fun _ => ?_))
   | exact LeO.none _
   | refine LeO.ite ?_ ?_
   | refine LeO.bind ?_ (fun _ => ?_)
  ·
   intro y0 y1 y2 y3 y4 y5
   unfold shuttlecockref07_Order.l0
   repeat' first
   | (with_reducible exact ih0 _ _ _ _ _)
   | (with_reducible exact ih1 _ _ _ _ _ _)
   | (with_reducible exact ih2 _ _ _ _ _)
   | (with_reducible exact ih3 _ _ _ _ _ _ _)
   | (with_reducible exact shuttlecockref02_Nums.mono _ _)
   | (with_reducible exact shuttlecockref02_Text.mono _ _)
   | (with_reducible exact shuttlecockref06_May.mono _ _ _)
   | (with_reducible exact shuttlecockref07_each.mono _ _ _)
   | (with_reducible exact LeO.refl _)
   | (with_reducible exact LeO.none _)
   | (with_reducible refine LeO.ite ?_ ?_)
   | (with_reducible refine LeO.bind ?_ (fun _ => ?_))
   | exact LeO.none _
   | refine LeO.ite ?_ ?_
   | refine LeO.bind ?_ (fun _ => ?_)
  ·
   intro y0 y1 y2 y3 y4
   unfold shuttlecockref07_Order.l1
   repeat' first
   | (with_reducible exact ih0 _ _ _ _ _)
   | (with_reducible exact ih1 _ _ _ _ _ _)
   | (with_reducible exact ih2 _ _ _ _ _)
   | (with_reducible exact ih3 _ _ _ _ _ _ _)
   | (with_reducible exact shuttlecockref02_Nums.mono _ _)
   | (with_reducible exact shuttlecockref02_Text.mono _ _)
   | (with_reducible exact shuttlecockref06_May.mono _ _ _)
   | (with_reducible exact shuttlecockref07_each.mono _ _ _)
   | (with_reducible exact LeO.refl _)
   | (with_reducible exact LeO.none _)
   | (with_reducible refine LeO.ite ?_ ?_)
   | (with_reducible refine LeO.bind ?_ (fun _ => ?_))
   | exact LeO.none _
   | refine LeO.ite ?_ ?_
   | refine LeO.bind ?_ (fun _ => ?_)
  ·
   intro y0 y1 y2 y3 y4 y5 y6
   unfold shuttlecockref07_Order.l2
   repeat' first
   | (with_reducible exact ih0 _ _ _ _ _)
   | (with_reducible exact ih1 _ _ _ _ _ _)
   | (with_reducible exact ih2 _ _ _ _ _)
   | (with_reducible exact ih3 _ _ _ _ _ _ _)
   | (with_reducible exact shuttlecockref02_Nums.mono _ _)
   | (with_reducible exact shuttlecockref02_Text.mono _ _)
   | (with_reducible exact shuttlecockref06_May.mono _ _ _)
   | (with_reducible exact shuttlecockref07_each.mono _ _ _)
   | (with_reducible exact LeO.refl _)
   | (with_reducible exact LeO.none _)
   | (with_reducible refine LeO.ite ?_ ?_)
   | (with_reducible refine LeO.bind ?_ (fun _ => ?_))
   | exact LeO.none _
   | refine LeO.ite ?_ ?_
   | refine LeO.bind ?_ (fun _ => ?_)
theorem shuttlecockref07_Order.mono : ∀ a0 a1 a2 a3 k, LeO (shuttlecockref07_Order.f k a0 a1 a2 a3) (shuttlecockref07_Order.f (k + 1) a0 a1 a2 a3) := by
 intro a0 a1 a2 a3 k
 obtain ⟨ih0, ih1, ih2, ih3⟩ := shuttlecockref07_Order.mono_l k
 unfold shuttlecockref07_Order.f
 repeat' first
   | (with_reducible exact ih0 _ _ _ _ _)
   | (with_reducible exact ih1 _ _ _ _ _ _)
   | (with_reducible exact ih2 _ _ _ _ _)
   | (with_reducible exact ih3 _ _ _ _ _ _ _)
   | (with_reducible exact shuttlecockref02_Nums.mono _ _)
   | (with_reducible exact shuttlecockref02_Text.mono _ _)
   | (with_reducible exact shuttlecockref06_May.mono _ _ _)
   | (with_reducible exact shuttlecockref07_each.mono _ _ _)
   | (with_reducible exact LeO.refl _)
   | (with_reducible exact LeO.none _)
   | (with_reducible refine LeO.ite ?_ ?_)
   | (with_reducible refine LeO.bind ?_ (fun _ => ?_))
   | exact LeO.none _
   | refine LeO.ite ?_ ?_
   | refine LeO.bind ?_ (fun _ => ?_)
def shuttlecockref07_Order.T7 : Bool × List (List Nat × List Nat) := (true, [([], []), ([], []), ([], []), ([1, 2], [1, 2]), ([3], [3]), ([4], [4]), ([5], [5]), ([], []), ([7], [7]), ([], []), ([], []), ([9, 10], [9, 10]), ([11], [11]), ([12], [12]), ([8, 13], [8, 13]), ([14], [14]), ([15, 6], [15]), ([6, 16], [6, 16]), ([0, 17], [0, 17]), ([18, 16, 0, 1, 2, 3, 4, 5, 6, 7, 8, 9, 10, 11, 12, 13, 14, 15, 16, 17, 18], [0, 18])])
def shuttlecockref07_Order.B7 : List Nat := [0, 0, 0, 6, 14, 30, 62, 0, 128, 0, 0, 1536, 3584, 7680, 16256, 32640, 65534, 131070, 262143, 524287]
theorem shuttlecockref07_Order.tab7 : rtab .any (opsOf Try.f14 7) = shuttlecockref07_Order.T7 := by kernel_rfl
theorem shuttlecockref07_Order.bits7 : waitsOk shuttlecockref07_Order.T7.2 shuttlecockref07_Order.B7 = true := by kernel_rfl
def shuttlecockref07_Order.T12 : Bool × List (List Nat × List Nat) := (true, [([], []), ([0], [0]), ([], []), ([], []), ([2, 3], [2, 3]), ([4], [4]), ([5], [5]), ([1, 6], [1, 6]), ([7], [7]), ([8, 0, 1, 2, 3, 4, 5, 6, 7, 8], [8])])
def shuttlecockref07_Order.B12 : List Nat := [0, 1, 0, 0, 12, 28, 60, 127, 255, 511]
theorem shuttlecockref07_Order.tab12 : rtab .any (opsOf Try.f14 12) = shuttlecockref07_Order.T12 := by kernel_rfl
theorem shuttlecockref07_Order.bits12 : waitsOk shuttlecockref07_Order.T12.2 shuttlecockref07_Order.B12 = true := by kernel_rfl
def shuttlecockref07_Order.T17 : Bool × List (List Nat × List Nat) := (true, [([], []), ([], []), ([], []), ([1, 2], [1, 2]), ([3], [3]), ([4], [4]), ([], []), ([], []), ([6, 7], [6, 7]), ([8], [8]), ([9], [9]), ([5, 10], [5, 10]), ([11], [11]), ([0, 12], [0, 12]), ([13, 12, 0, 1, 2, 3, 4, 5, 6, 7, 8, 9, 10, 11, 12, 13], [0, 13])])
def shuttlecockref07_Order.B17 : List Nat := [0, 0, 0, 6, 14, 30, 0, 0, 192, 448, 960, 2046, 4094, 8191, 16383]
theorem shuttlecockref07_Order.tab17 : rtab .any (opsOf Try.f14 17) = shuttlecockref07_Order.T17 := by kernel_rfl
theorem shuttlecockref07_Order.bits17 : waitsOk shuttlecockref07_Order.T17.2 shuttlecockref07_Order.B17 = true := by kernel_rfl
set_option maxHeartbeats 8000000 in
set_option maxRecDepth 100000 in
theorem shuttlecockref07_Order.calls (k : Nat) (A0_0 : Option Addr) (c0_0 : Nat) (l0_0 : List ByteArray) (A0_1 : Option Addr) (c0_1 : Nat) (l0_1 : List (List (S70))) (A1 : Option Addr) (c1 : Nat) (l1 : List Int) (A2 : Option Addr) (c2 : Nat) (l2 : List Int) (r : ByteArray) (w : World) (hr0_0 : Kd.C Kd.string w A0_0 l0_0.length l0_0) (hc0_0 : l0_0.length ≤ c0_0) (hr0_1 : Kd.C (Kd.slice 70 k70) w A0_1 l0_1.length l0_1) (hc0_1 : l0_1.length ≤ c0_1) (hr1 : Kd.C (Kd.int .i64) w A1 l1.length l1) (hc1 : l1.length ≤ c1) (hr2 : Kd.C (Kd.int .i64) w A2 l2.length l2) (hc2 : l2.length ≤ c2) (h : shuttlecockref07_Order.f k l0_0 l0_1 l1 l2 = some r) :
  Calls Try.prog 14 #[.agg #[.slice A0_0 l0_0.length c0_0, .slice A0_1 l0_1.length c0_1], .slice A1 l1.length c1, .slice A2 l2.length c2] w fun e w' => e = .returned (.string r) ∧ Below w.heap.size w w' := by
 have hu25 := Try.underlying25
 have HR0_0 := Am hr0_0
 have HC0_0 := Am hc0_0
 clear hr0_0 hc0_0
 have HR0_1 := Am hr0_1
 have HC0_1 := Am hc0_1
 clear hr0_1 hc0_1
 have HR1 := Am hr1
 have HC1 := Am hc1
 clear hr1 hc1
 have HR2 := Am hr2
 have HC2 := Am hc2
 clear hr2 hc2
 have HB := Am (Below.refl w.heap.size w)
 have H : ((shuttlecockref06_May.f k l0_0 l0_1).bind fun t340 => (if t340 = true then ((shuttlecockref07_each.f k l1 (l0_0.length : Int)).bind fun t341 => (if t341 = true then ((shuttlecockref07_each.f k l2 (l0_1.length : Int)).bind fun t342 => (shuttlecockref07_Order.j0 k l1 l2 (!t342) l0_0 l0_1)) else (shuttlecockref07_Order.j0 k l1 l2 true l0_0 l0_1))) else (shuttlecockref07_Order.j0 k l1 l2 true l0_0 l0_1))) = some r := h
 clear h
 have HC4 := Am H
 clear H
 go_enter Try.func14, Try.ntmps14
 go_upto_region 1 with (first | ((with_reducible refine gate_dst (N := 3) rfl ?_); (try (refine gate_guard (by rfl) ?_; dsimp only)); refine box_event ?hg (N := 3) ?hd (cs := #[.slice A0_0 l0_0.length c0_0, .slice A0_1 l0_1.length c0_1]) (t := 25) ?hr ?_; (case hd => rfl); (case hg => rfl); (case hr => first | (go_simp; done) | (go_simp; rfl)); intro gb339 hg w5 hbox hb; have BK339 := Am (hbox); have GW339 := Am ((by rw [hg]; exact (below_size (z3)) : w.heap.size ≤ gb339)); have GE339 := GW339; replace HB := Am (below_step (z3) hb); clear hb hbox hg))
 (try simp only [Act.put, sI, sZ, sS])
 go_cut [30] (fun v30 wc => ∃ (kq : Nat) (x30_3 : Bool), v30 = .bool x30_3 ∧ Aside0 (shuttlecockref07_Order.j0 kq l1 l2 x30_3 l0_0 l0_1 = some r) ∧ Aside0 (kq ≤ k) ∧ Aside0 (wc.heap[gb339]? = some (.cells #[(.slice A0_0 l0_0.length c0_0), (.slice A0_1 l0_1.length c0_1)] 25 (0, 0))) ∧ Aside0 (Below w.heap.size w wc))
 case first =>
  have H := HC4.out
  clear HC4
  replace H := ob H
  obtain ⟨t340, A60, H⟩ := H
  (try dsimp only at H)
  have A6 := Am A60
  clear A60
  by_cases c7 : t340 = true
  ·
   subst c7
   rw [if_pos rfl] at H
   replace H := ob H
   obtain ⟨t341, A80, H⟩ := H
   (try dsimp only at H)
   have A8 := Am A80
   clear A80
   by_cases c9 : t341 = true
   ·
    subst c9
    rw [if_pos rfl] at H
    replace H := ob H
    obtain ⟨t342, A100, H⟩ := H
    (try dsimp only at H)
    have A10 := Am A100
    clear A100
    have H' := Am H
    clear H
    have hcz11_0 := Own.bc2 BK339.out 0
    have hcz11_1 := Own.bc2 BK339.out 1
    have hfz11_0 := bf BK339.out 0
    have hfz11_1 := bf BK339.out 1
    go_wp2_with (first | ((with_reducible refine gate_callee (f := 16) rfl ?_); refine Own.gL_ (some 13) Try.func16 (#[.agg #[.slice A0_0 l0_0.length c0_0, .slice A0_1 l0_1.length c0_1]]) (h := ?_); (with_reducible refine (shuttlecockref06_May.calls k _ _ l0_0 _ _ l0_1 true _ ?side1 ?side2 ?side3 ?side4 A6.out).mono ?_); (case side1 => repeat (first | exact (Kd.C_below HR0_0.out HB.out) | (with_reducible refine Kd.C_alloc ?_ _) | (with_reducible refine Kd.C_drewN ?_ _) | (with_reducible refine Kd.C_drew ?_))); (case side2 => exact HC0_0.out); (case side3 => repeat (first | exact (Kd.C_below HR0_1.out HB.out) | (with_reducible refine Kd.C_alloc ?_ _) | (with_reducible refine Kd.C_drewN ?_ _) | (with_reducible refine Kd.C_drew ?_))); (case side4 => exact HC0_1.out); rintro e w12 ⟨rfl, hb⟩; refine ⟨_, rfl, ?_⟩; replace BK339 := Am (blk_below (g := gb339) (o := .cells #[.slice A0_0 l0_0.length c0_0, .slice A0_1 l0_1.length c0_1] 25 (0, 0)) (by (with_reducible repeat (first|apply bn|apply bd|apply ba)); exact BK339.out) hb); replace HB := Am (below_step (z8) hb); clear hb; have hcz13_0 := Own.bc2 BK339.out 0; have hcz13_1 := Own.bc2 BK339.out 1; have hfz13_0 := bf BK339.out 0; have hfz13_1 := bf BK339.out 1) | (go_at_call 32; (with_reducible refine (shuttlecockref07_each.calls k _ _ l1 (l0_0.length : Int) true _ ?side1 ?side2 A8.out).mono ?_); (case side1 => repeat (first | exact (Kd.C_below HR1.out HB.out) | (with_reducible refine Kd.C_alloc ?_ _) | (with_reducible refine Kd.C_drewN ?_ _) | (with_reducible refine Kd.C_drew ?_))); (case side2 => exact HC1.out); rintro e w' ⟨rfl, ⟨nd, rfl⟩⟩) | (go_at_call 32; (with_reducible refine (shuttlecockref07_each.calls k _ _ l2 (l0_1.length : Int) t342 _ ?side1 ?side2 A10.out).mono ?_); (case side1 => repeat (first | exact (Kd.C_below HR2.out (z8)) | (with_reducible refine Kd.C_alloc ?_ _) | (with_reducible refine Kd.C_drewN ?_ _) | (with_reducible refine Kd.C_drew ?_))); (case side2 => exact HC2.out); rintro e w' ⟨rfl, ⟨nd, rfl⟩⟩))
    go_meet
    case rel => exact ⟨_, (!t342), (by first | rfl | (simp; done) | (simp [*]; done) | (simp; generalize ByteArray.toList _ = l_; cases l_ <;> rfl)), H', ⟨by first | omega | exact Nat.le_refl _⟩, ⟨by (with_reducible repeat (first|apply bn|apply bd|apply ba)); exact BK339.out⟩, ⟨z8⟩⟩
   ·
    replace c9 := Bool.eq_false_iff.mpr c9
    subst c9
    rw [if_neg (show ¬ (false = true) by decide)] at H
    have H' := Am H
    clear H
    have hcz14_0 := Own.bc2 BK339.out 0
    have hcz14_1 := Own.bc2 BK339.out 1
    have hfz14_0 := bf BK339.out 0
    have hfz14_1 := bf BK339.out 1
    go_wp2_with (first | ((with_reducible refine gate_callee (f := 16) rfl ?_); refine Own.gL_ (some 13) Try.func16 (#[.agg #[.slice A0_0 l0_0.length c0_0, .slice A0_1 l0_1.length c0_1]]) (h := ?_); (with_reducible refine (shuttlecockref06_May.calls k _ _ l0_0 _ _ l0_1 true _ ?side1 ?side2 ?side3 ?side4 A6.out).mono ?_); (case side1 => repeat (first | exact (Kd.C_below HR0_0.out HB.out) | (with_reducible refine Kd.C_alloc ?_ _) | (with_reducible refine Kd.C_drewN ?_ _) | (with_reducible refine Kd.C_drew ?_))); (case side2 => exact HC0_0.out); (case side3 => repeat (first | exact (Kd.C_below HR0_1.out HB.out) | (with_reducible refine Kd.C_alloc ?_ _) | (with_reducible refine Kd.C_drewN ?_ _) | (with_reducible refine Kd.C_drew ?_))); (case side4 => exact HC0_1.out); rintro e w15 ⟨rfl, hb⟩; refine ⟨_, rfl, ?_⟩; replace BK339 := Am (blk_below (g := gb339) (o := .cells #[.slice A0_0 l0_0.length c0_0, .slice A0_1 l0_1.length c0_1] 25 (0, 0)) (by (with_reducible repeat (first|apply bn|apply bd|apply ba)); exact BK339.out) hb); replace HB := Am (below_step (z8) hb); clear hb; have hcz16_0 := Own.bc2 BK339.out 0; have hcz16_1 := Own.bc2 BK339.out 1; have hfz16_0 := bf BK339.out 0; have hfz16_1 := bf BK339.out 1) | (go_at_call 32; (with_reducible refine (shuttlecockref07_each.calls k _ _ l1 (l0_0.length : Int) false _ ?side1 ?side2 A8.out).mono ?_); (case side1 => repeat (first | exact (Kd.C_below HR1.out HB.out) | (with_reducible refine Kd.C_alloc ?_ _) | (with_reducible refine Kd.C_drewN ?_ _) | (with_reducible refine Kd.C_drew ?_))); (case side2 => exact HC1.out); rintro e w' ⟨rfl, ⟨nd, rfl⟩⟩))
    go_meet
    case rel => exact ⟨_, (true), (by first | rfl | (simp; done) | (simp [*]; done) | (simp; generalize ByteArray.toList _ = l_; cases l_ <;> rfl)), H', ⟨by first | omega | exact Nat.le_refl _⟩, ⟨by (with_reducible repeat (first|apply bn|apply bd|apply ba)); exact BK339.out⟩, ⟨z8⟩⟩
  ·
   replace c7 := Bool.eq_false_iff.mpr c7
   subst c7
   rw [if_neg (show ¬ (false = true) by decide)] at H
   have H' := Am H
   clear H
   have hcz17_0 := Own.bc2 BK339.out 0
   have hcz17_1 := Own.bc2 BK339.out 1
   have hfz17_0 := bf BK339.out 0
   have hfz17_1 := bf BK339.out 1
   go_wp2_with (first | ((with_reducible refine gate_callee (f := 16) rfl ?_); refine Own.gL_ (some 13) Try.func16 (#[.agg #[.slice A0_0 l0_0.length c0_0, .slice A0_1 l0_1.length c0_1]]) (h := ?_); (with_reducible refine (shuttlecockref06_May.calls k _ _ l0_0 _ _ l0_1 false _ ?side1 ?side2 ?side3 ?side4 A6.out).mono ?_); (case side1 => repeat (first | exact (Kd.C_below HR0_0.out HB.out) | (with_reducible refine Kd.C_alloc ?_ _) | (with_reducible refine Kd.C_drewN ?_ _) | (with_reducible refine Kd.C_drew ?_))); (case side2 => exact HC0_0.out); (case side3 => repeat (first | exact (Kd.C_below HR0_1.out HB.out) | (with_reducible refine Kd.C_alloc ?_ _) | (with_reducible refine Kd.C_drewN ?_ _) | (with_reducible refine Kd.C_drew ?_))); (case side4 => exact HC0_1.out); rintro e w18 ⟨rfl, hb⟩; refine ⟨_, rfl, ?_⟩; replace BK339 := Am (blk_below (g := gb339) (o := .cells #[.slice A0_0 l0_0.length c0_0, .slice A0_1 l0_1.length c0_1] 25 (0, 0)) (by (with_reducible repeat (first|apply bn|apply bd|apply ba)); exact BK339.out) hb); replace HB := Am (below_step (z8) hb); clear hb))
   go_meet
   case rel => exact ⟨_, (true), (by first | rfl | (simp; done) | (simp [*]; done) | (simp; generalize ByteArray.toList _ = l_; cases l_ <;> rfl)), H', ⟨by first | omega | exact Nat.le_refl _⟩, ⟨by (with_reducible repeat (first|apply bn|apply bd|apply ba)); exact BK339.out⟩, ⟨z8⟩⟩
 case rest =>
  clear HC4
  try clear c1
  try clear c2
  try clear p2
  try clear c7
  try clear c9
  try clear c14
  try clear c16
  try clear hcz11_0
  try clear hcz11_1
  try clear hcz13_0
  try clear hcz13_1
  try clear hcz14_0
  try clear hcz14_1
  try clear hcz16_0
  try clear hcz16_1
  try clear hcz17_0
  try clear hcz17_1
  try clear hfz11_0
  try clear hfz11_1
  try clear hfz13_0
  try clear hfz13_1
  try clear hfz14_0
  try clear hfz14_1
  try clear hfz16_0
  try clear hfz16_1
  try clear hfz17_0
  try clear hfz17_1
  obtain ⟨kq, x30_3, rfl, HA, HJ3, BK339, HB⟩ := hcut
  cases kq with
  | zero => exact absurd HA.out (by simp [shuttlecockref07_Order.j0])
  | succ kj3 =>
   have H := HA.out
   clear HA
   simp only [shuttlecockref07_Order.j0] at H
   by_cases c19 : x30_3 = true
   ·
    subst c19
    rw [if_pos rfl] at H
    obtain rfl := Option.some.inj H
    go_wp2
    go_ret
    exact ⟨y0, z8⟩
   ·
    replace c19 := Bool.eq_false_iff.mpr c19
    subst c19
    rw [if_neg (show ¬ (false = true) by decide)] at H
    obtain ⟨y343, hy343⟩ : ∃ y_ : List Int, y_ = (([(l1.length : Int)] : List Int)) := ⟨_, rfl⟩
    replace H : ((shuttlecockref02_Nums.f kj3 y343).bind fun t346 => (shuttlecockref07_Order.l0 kj3 l1 l2 t346 0 l0_0 l0_1)) = some r := by first | (rw [hy343]; with_reducible exact H) | (have H2_ := (Option.bind_some _ _).symm.trans H; rw [hy343]; with_reducible exact H2_) | (have H2_ := (Option.bind_some _ _).symm.trans H; with_reducible exact H2_) | with_reducible exact H | (rw [hy343]; exact H) | exact H
    have Ny343 := Am hy343
    clear hy343
    replace H := ob H
    obtain ⟨t346, A200, H⟩ := H
    (try dsimp only at H)
    have A20 := Am A200
    clear A200
    have H' := Am H
    clear H
    go_wp2_with (first | ((with_reducible refine gate_dst (N := 33) rfl ?_); (try (refine gate_guard (by rfl) ?_; dsimp only)); refine Kd.R_lit (Kd.int .i64) _ 3 ?hg (N := 33) ?hd (xs := ([(l1.length : Int)] : List Int)) (inner := [.int .i64 (l1.length : Int)]) (ok := fun _ => True) (okp := fun _ => True) ?hr ?hp (fun _ hk => hk) trivial (Below.refl _ _) (Nat.le_refl _) (by simp) ?_; (case hd => rfl); (case hg => rfl); (case hr => first | (go_simp; done) | (go_simp; rfl)); (case hp => exact (Reps.one (show Kd.M (Kd.int .i64) _ _ _ (l1.length : Int) [.int .i64 (l1.length : Int)] from rfl) (Reps.none _ _))); intro v344 w21 ho22 hb hg_ hnew_; clear hg_ hnew_; (first | rw [← Ny343.out] at ho22 | (simp only [Int.reduceToNat] at ho22; rw [← Ny343.out] at ho22)); have HO345 := Am (Kd.R_lower ho22 (below_size (z8))); replace BK339 := Am (blk_below (g := gb339) (o := .cells #[.slice A0_0 l0_0.length c0_0, .slice A0_1 l0_1.length c0_1] 25 (0, 0)) (by (with_reducible repeat (first|apply bn|apply bd|apply ba)); exact BK339.out) hb); replace HB := Am (below_step (z8) hb); clear hb ho22; obtain ⟨Ao23, co23, eo23⟩ := Kd.R_slice HO345.out; subst eo23) | ((with_reducible refine gate_callee (f := 33) rfl ?_); refine Own.gL_ (some 34) Try.func33 (#[.slice Ao23 y343.length co23]) (h := ?_); (with_reducible refine (shuttlecockref02_Nums.calls kj3 _ _ y343 t346 _ ?side1 ?side2 A20.out).mono ?_); (case side1 => repeat (first | exact (Kd.R_reads' HO345.out).2.2 | (with_reducible refine Kd.C_alloc ?_ _) | (with_reducible refine Kd.C_drewN ?_ _) | (with_reducible refine Kd.C_drew ?_))); (case side2 => exact (Kd.R_reads' HO345.out).2.1); rintro e w24 ⟨rfl, hb⟩; refine ⟨_, rfl, ?_⟩; replace HO345 := Am (Kd.R_below (by (with_reducible repeat (first | apply Kd.R_alloc | apply Kd.R_drewN | apply Kd.R_drew)); exact HO345.out) hb); replace BK339 := Am (blk_below (g := gb339) (o := .cells #[.slice A0_0 l0_0.length c0_0, .slice A0_1 l0_1.length c0_1] 25 (0, 0)) (by (with_reducible repeat (first|apply bn|apply bd|apply ba)); exact BK339.out) hb); replace HB := Am (below_step (z8) hb); clear hb))
    go_loopg [7, 8] kj3 (fun kq v7 v8 w' => ∃ (x7_2 : ByteArray) (x8_2 : Int), v7 = .string x7_2 ∧ v8 = .int .i64 x8_2 ∧ Aside0 (shuttlecockref07_Order.l0 kq l1 l2 x7_2 x8_2 l0_0 l0_1 = some r) ∧ Aside0 (kq ≤ kj3) ∧ Aside0 (w'.heap[gb339]? = some (.cells #[(.slice A0_0 l0_0.length c0_0), (.slice A0_1 l0_1.length c0_1)] 25 (0, 0))) ∧ Aside0 (Below w.heap.size w w'))
    case atStart => exact ⟨(t346), (0), (by first | rfl | (simp; done) | (simp [*]; done)), (by first | rfl | (simp; done) | (simp [*]; done) | (simp; generalize ByteArray.toList _ = l_; cases l_ <;> rfl)), H', ⟨Nat.le_refl _⟩, ⟨by (with_reducible repeat (first|apply bn|apply bd|apply ba)); exact BK339.out⟩, ⟨z8⟩⟩
    case round =>
     clear H'
     try clear c1
     try clear c2
     try clear p2
     try clear c3
     try clear c7
     try clear c9
     try clear c14
     try clear c16
     try clear c19
     try clear hcz11_0
     try clear hcz11_1
     try clear hcz13_0
     try clear hcz13_1
     try clear hcz14_0
     try clear hcz14_1
     try clear hcz16_0
     try clear hcz16_1
     try clear hcz17_0
     try clear hcz17_1
     try clear hfz11_0
     try clear hfz11_1
     try clear hfz13_0
     try clear hfz13_1
     try clear hfz14_0
     try clear hfz14_1
     try clear hfz16_0
     try clear hfz16_1
     try clear hfz17_0
     try clear hfz17_1
     try clear p2
     obtain ⟨x7_2, x8_2, rfl, rfl, HA, HK2, BK339, HB⟩ := hrel
     cases gk with
     | zero => exact absurd HA.out (by simp [shuttlecockref07_Order.l0])
     | succ k2 =>
      have H := HA.out
      clear HA
      simp only [shuttlecockref07_Order.l0] at H
      by_cases c25 : x8_2 < (l1.length : Int)
      ·
       rw [if_pos c25] at H
       have c25b0 : decide (x8_2 < (l1.length : Int)) = true := decide_eq_true c25
       clear c25
       by_cases c26 : 0 ≤ x8_2
       ·
        rw [if_pos c26] at H
        have c26b0 : decide (0 ≤ x8_2) = true := decide_eq_true c26
        clear c26
        obtain ⟨y348, hy348⟩ : ∃ y_ : List Int, y_ = (([rd l1 x8_2] : List Int)) := ⟨_, rfl⟩
        replace H : ((shuttlecockref02_Nums.f k2 y348).bind fun t351 => (if 0 ≤ (wrap64 ((rd l1 x8_2) - 1)) then (if (wrap64 ((rd l1 x8_2) - 1)) < (l0_0.length : Int) then ((shuttlecockref02_Text.f k2 (rdOf ByteArray.empty l0_0 (wrap64 ((rd l1 x8_2) - 1)))).bind fun t354 => (if t351.size + t354.size ≤ 9223372036854775807 then (if x7_2.size + (t351 ++ t354).size ≤ 9223372036854775807 then (shuttlecockref07_Order.l0 k2 l1 l2 (x7_2 ++ (t351 ++ t354)) (wrap64 (x8_2 + 1)) l0_0 l0_1) else (none)) else (none))) else (none)) else (none))) = some r := by first | (rw [hy348]; with_reducible exact H) | (have H2_ := (Option.bind_some _ _).symm.trans H; rw [hy348]; with_reducible exact H2_) | (have H2_ := (Option.bind_some _ _).symm.trans H; with_reducible exact H2_) | with_reducible exact H | (rw [hy348]; exact H) | exact H
        have Ny348 := Am hy348
        clear hy348
        replace H := ob H
        obtain ⟨t351, A270, H⟩ := H
        (try dsimp only at H)
        have A27 := Am A270
        clear A270
        obtain ⟨ji28, hji28⟩ : ∃ j_ : Int, (wrap64 ((rd l1 x8_2) - 1)) = j_ := ⟨_, rfl⟩
        replace H : (if 0 ≤ (ji28) then (if (ji28) < (l0_0.length : Int) then ((shuttlecockref02_Text.f k2 (rdOf ByteArray.empty l0_0 (ji28))).bind fun t354 => (if t351.size + t354.size ≤ 9223372036854775807 then (if x7_2.size + (t351 ++ t354).size ≤ 9223372036854775807 then (shuttlecockref07_Order.l0 k2 l1 l2 (x7_2 ++ (t351 ++ t354)) (wrap64 (x8_2 + 1)) l0_0 l0_1) else (none)) else (none))) else (none)) else (none)) = some r := by first | (rw [hji28] at H; exact H) | (simp only [hji28] at H ⊢; exact H)
        (try rw [hji28] at A27)
        have hji28w : (IntKind.i64.wrap ((rd l1 x8_2) - 1)) = ji28 := (i64_w _).trans hji28
        by_cases c29 : 0 ≤ (ji28)
        ·
         rw [if_pos c29] at H
         have c29b0 : decide (0 ≤ (ji28)) = true := decide_eq_true c29
         clear c29
         by_cases c30 : (ji28) < (l0_0.length : Int)
         ·
          rw [if_pos c30] at H
          have c30b0 : decide ((ji28) < (l0_0.length : Int)) = true := decide_eq_true c30
          clear c30
          replace H := ob H
          obtain ⟨t354, A310, H⟩ := H
          (try dsimp only at H)
          have A31 := Am A310
          clear A310
          by_cases c32 : t351.size + t354.size ≤ 9223372036854775807
          ·
           rw [if_pos c32] at H
           have c32b0 := eq_true c32
           have c32b1 : decide (t351.size + t354.size ≤ 9223372036854775807) = true := decide_eq_true c32
           try have c32b2 : (9223372036854775807 < t351.size + t354.size) = False := eq_false (Nat.not_lt.2 c32)
           by_cases c33 : x7_2.size + (t351 ++ t354).size ≤ 9223372036854775807
           ·
            rw [if_pos c33] at H
            have c33b0 := eq_true c33
            have c33b1 : decide (x7_2.size + (t351 ++ t354).size ≤ 9223372036854775807) = true := decide_eq_true c33
            try have c33b2 : (9223372036854775807 < x7_2.size + (t351 ++ t354).size) = False := eq_false (Nat.not_lt.2 c33)
            try (have c33b3 := c33b2; simp only [ByteArray.size_append] at c33b3)
            try (have c33b4 := c33b1; simp only [ByteArray.size_append] at c33b4)
            have H' := Am H
            clear H
            try go_wp2
            replace BK339 := Am (bd BK339.out)
            replace HB := Am (b1 HB.out)
            have p347 : 0 ≤ (x8_2 : Int) := dz
            have q347 : x8_2 < (l1.length : Int) := dz
            obtain ⟨ad347, e347, hx347_0⟩ := Kd.at_int HR1.out x8_2 p347 q347
            have hw347_0 := hx347_0
            cases e347
            replace hx347_0 := (HB.out.cell (World.block_lt_of_cell? w _ hx347_0)).trans hx347_0
            replace p347 := eq_true p347
            replace q347 := eq_true q347
            have p352 : 0 ≤ (x8_2 : Int) := dz
            have q352 : x8_2 < (l1.length : Int) := dz
            obtain ⟨ad352, e352, hx352_0⟩ := Kd.at_int HR1.out x8_2 p352 q352
            have hw352_0 := hx352_0
            obtain rfl : ad347 = ad352 := (by injection e352)
            replace hx352_0 := (HB.out.cell (World.block_lt_of_cell? w _ hx352_0)).trans hx352_0
            replace p352 := eq_true p352
            replace q352 := eq_true q352
            have p353 : 0 ≤ ((ji28) : Int) := dz
            have q353 : (ji28) < (l0_0.length : Int) := dz
            obtain ⟨ad353, e353, hx353_0⟩ := Kd.at_string HR0_0.out (ji28) p353 q353
            have hw353_0 := hx353_0
            cases e353
            replace hx353_0 := (HB.out.cell (World.block_lt_of_cell? w _ hx353_0)).trans hx353_0
            replace p353 := eq_true p353
            replace q353 := eq_true q353
            refine start_ (n := 20) (S := fun w' => w'.cell? ⟨gb339, 0, none⟩ = some (.slice (some ad353) l0_0.length c0_0) ∧ w'.cell? ⟨gb339, 1, none⟩ = some (.slice A0_1 l0_1.length c0_1) ∧ w'.cell? (ad347.add (x8_2).toNat) = some (.int .i64 (rd l1 x8_2)) ∧ w'.cell? (ad347.add (x8_2).toNat) = some (.int .i64 (rd l1 x8_2)) ∧ w'.cell? (ad353.add ((ji28)).toNat) = some (.string (rdOf ByteArray.empty l0_0 (ji28)))) (ds := []) q19_0 (by kernel_rfl) rfl rfl ⟨(bc BK339.out 0).trans rfl, (bc BK339.out 1).trans rfl, ((HB.out.cell (World.block_lt_of_cell? w _ hw347_0)).trans hw347_0), ((HB.out.cell (World.block_lt_of_cell? w _ hw352_0)).trans hw352_0), ((HB.out.cell (World.block_lt_of_cell? w _ hw353_0)).trans hw353_0)⟩ (fun hHeld => ?_); refine with_tabW shuttlecockref07_Order.tab7 shuttlecockref07_Order.bits7 (fun HT_ HW_ => ?_)
            generalize wr.drew = w34 at BK339 HB hx347_0 hx352_0 hx353_0 hHeld ⊢
            refine Own.pr_ 0 (some 41) q19_1 HT_ (h := ?_)
            refine Own.pr_ 1 (some 42) q19_2 HT_ (h := ?_)
            refine Own.pr_ 2 (some 43) q19_3 HT_ (h := ?_)
            refine Own.pr_ 3 (some 44) q19_4 HT_ (h := ?_)
            refine Own.pr_ 7 (some 48) q19_5 HT_ (h := ?_)
            refine Own.pr_ 9 (some 50) q19_6 HT_ (h := ?_)
            refine Own.pr_ 10 (some 51) q19_7 HT_ (h := ?_)
            refine Own.pr_ 11 (some 52) q19_8 HT_ (h := ?_)
            refine Own.tk_ 4 (some 45) q19_9 HT_ HW_ hHeld (hy := by rintro w' ⟨s0, s1, s2, s3, s4⟩; go_simp; with_reducible rfl) (h := ?_)
            refine Own.tk_ 8 (some 49) q19_10 HT_ HW_ hHeld (hy := by rintro w' ⟨s0, s1, s2, s3, s4⟩; go_simp; with_reducible rfl) (h := ?_)
            refine Own.tk_ 12 (some 53) q19_11 HT_ HW_ hHeld (hy := by rintro w' ⟨s0, s1, s2, s3, s4⟩; go_simp; with_reducible rfl) (h := ?_)
            refine Own.pr_ 13 (some 54) q19_12 HT_ (h := ?_)
            refine Own.pr_ 14 (some 55) q19_13 HT_ (h := ?_)
            refine Own.tk_ 15 (some 56) q19_14 HT_ HW_ hHeld (hy := by rintro w' ⟨s0, s1, s2, s3, s4⟩; go_simp; with_reducible rfl) (h := ?_)
            refine one_ (i := 5) (N := some 46) q19_15 rfl rfl (one_of HT_.out (by kernel_rfl)) (by decide) (fun K hK => ?_)
            refine Kd.R_lit_step (Kd.int .i64) _ 3 ?hg (N := 46) ?hd (xs := ([rd l1 x8_2] : List Int)) (inner := [.int .i64 (rd l1 x8_2)]) (ok := fun _ => True) (okp := fun _ => True) ?hr ?hp (fun _ hk => hk) trivial (Below.refl _ _) (Nat.le_refl _) (by simp) ?_; (case hd => rfl); (case hg => rfl); (case hr => first | (go_simp; done) | (go_simp; rfl)); (case hp => exact (Reps.one (show Kd.M (Kd.int .i64) _ _ _ (rd l1 x8_2) [.int .i64 (rd l1 x8_2)] from rfl) (Reps.none _ _)))
            intro v349 w35 ho36 hb hg_ hnew_
            clear hg_ hnew_
            (first | rw [← Ny348.out] at ho36 | (simp only [Int.reduceToNat] at ho36; rw [← Ny348.out] at ho36))
            have HO350 := Am (Kd.R_lower ho36 (below_size (z8)))
            replace BK339 := Am (blk_below (g := gb339) (o := .cells #[.slice (some ad353) l0_0.length c0_0, .slice A0_1 l0_1.length c0_1] 25 (0, 0)) (by (with_reducible repeat (first|apply bn|apply bd|apply ba)); exact BK339.out) hb)
            replace HB := Am (below_step (z8) hb)
            clear hb ho36
            obtain ⟨Ao37, co37, eo37⟩ := Kd.R_slice HO350.out
            (first | subst eo37 | (injection eo37 with f1_ f2_ f3_; have f4_ := f1_.symm; have f5_ := f3_.symm; clear f1_ f2_ f3_; subst f4_; subst f5_))
            refine hK.out _ _ ⟨(bc BK339.out 0).trans rfl, (bc BK339.out 1).trans rfl, ((HB.out.cell (World.block_lt_of_cell? w _ hw347_0)).trans hw347_0), ((HB.out.cell (World.block_lt_of_cell? w _ hw352_0)).trans hw352_0), ((HB.out.cell (World.block_lt_of_cell? w _ hw353_0)).trans hw353_0)⟩ (fun hHeld => ?_)
            clear hK K
            refine norm_ (a' := ?_) ?_ ?_
            rotate_left
            ·
             show Act.put _ (some 46) _ = _
             simp only [Act.put, sI, sZ, sS, i64_w, i32_w]
             rfl
            refine one_ (i := 6) (N := some 47) q19_16 rfl rfl (one_of HT_.out (by kernel_rfl)) (by decide) (fun K hK => ?_)
            refine goes_ Try.func33 (by kernel_rfl) rfl #[.slice Ao37 y348.length co37] (by rfl) rfl rfl (by (try simp only [List.map_toArray, List.map_cons, List.map_nil]); first | done | rfl | (simp only [List.length_drop, List.length_take]; rfl)) ?_
            with_reducible refine (shuttlecockref02_Nums.calls k2 _ _ y348 t351 _ ?side1 ?side2 A27.out).mono ?_
            (case side1 => repeat (first | exact (Kd.R_reads' HO350.out).2.2 | (with_reducible refine Kd.C_alloc ?_ _) | (with_reducible refine Kd.C_drewN ?_ _) | (with_reducible refine Kd.C_drew ?_)))
            (case side2 => exact (Kd.R_reads' HO350.out).2.1)
            rintro e w38 ⟨rfl, hb⟩
            refine ⟨_, rfl, ?_⟩
            replace HO350 := Am (Kd.R_below (by (with_reducible repeat (first | apply Kd.R_alloc | apply Kd.R_drewN | apply Kd.R_drew)); exact HO350.out) hb)
            replace BK339 := Am (blk_below (g := gb339) (o := .cells #[.slice (some ad353) l0_0.length c0_0, .slice A0_1 l0_1.length c0_1] 25 (0, 0)) (by (with_reducible repeat (first|apply bn|apply bd|apply ba)); exact BK339.out) hb)
            replace HB := Am (below_step (z8) hb)
            (try clear hb)
            (try clear hb2)
            (try clear hk)
            (try clear hi)
            refine hK.out _ _ ⟨(bc BK339.out 0).trans rfl, (bc BK339.out 1).trans rfl, ((HB.out.cell (World.block_lt_of_cell? w _ hw347_0)).trans hw347_0), ((HB.out.cell (World.block_lt_of_cell? w _ hw352_0)).trans hw352_0), ((HB.out.cell (World.block_lt_of_cell? w _ hw353_0)).trans hw353_0)⟩ (fun hHeld => ?_)
            clear hK K
            refine norm_ (a' := ?_) ?_ ?_
            rotate_left
            ·
             show Act.put _ (some 47) _ = _
             simp only [Act.put, sI, sZ, sS, i64_w, i32_w]
             rfl
            refine one_ (i := 16) (N := some 57) q19_17 rfl rfl (one_of HT_.out (by kernel_rfl)) (by decide) (fun K hK => ?_)
            refine goes_ Try.func34 (by kernel_rfl) rfl #[.string (rdOf ByteArray.empty l0_0 (ji28))] (by rfl) rfl rfl (by (try simp only [List.map_toArray, List.map_cons, List.map_nil]); first | done | (simp only [hji28]; rfl) | rfl | (simp only [List.length_drop, List.length_take]; rfl)) ?_
            with_reducible refine (shuttlecockref02_Text.calls k2 (rdOf ByteArray.empty l0_0 (ji28)) t354 _ A31.out).mono ?_
            rintro e w39 ⟨rfl, hb⟩
            refine ⟨_, rfl, ?_⟩
            replace HO350 := Am (Kd.R_below (by (with_reducible repeat (first | apply Kd.R_alloc | apply Kd.R_drewN | apply Kd.R_drew)); exact HO350.out) hb)
            replace BK339 := Am (blk_below (g := gb339) (o := .cells #[.slice (some ad353) l0_0.length c0_0, .slice A0_1 l0_1.length c0_1] 25 (0, 0)) (by (with_reducible repeat (first|apply bn|apply bd|apply ba)); exact BK339.out) hb)
            replace HB := Am (below_step (z8) hb)
            (try clear hb)
            (try clear hb2)
            (try clear hk)
            (try clear hi)
            refine hK.out _ _ ⟨(bc BK339.out 0).trans rfl, (bc BK339.out 1).trans rfl, ((HB.out.cell (World.block_lt_of_cell? w _ hw347_0)).trans hw347_0), ((HB.out.cell (World.block_lt_of_cell? w _ hw352_0)).trans hw352_0), ((HB.out.cell (World.block_lt_of_cell? w _ hw353_0)).trans hw353_0)⟩ (fun hHeld => ?_)
            clear hK K
            refine norm_ (a' := ?_) ?_ ?_
            rotate_left
            ·
             show Act.put _ (some 57) _ = _
             simp only [Act.put, sI, sZ, sS, i64_w, i32_w]
             rfl
            refine Own.pr_ 17 (some 58) q19_18 HT_ (h := ?_)
            refine Own.pr_ 18 (some 59) q19_19 HT_ (h := ?_)
            refine Own.pr_ 19 (some 7) q19_20 HT_ (h := ?_)
            refine done_ (done_of HT_.out (by kernel_rfl)) ?_
            try go_wp2
            go_roundg k2
            case measure => have := HJ3.out; have := HK2.out; omega
            case rel => exact ⟨(x7_2 ++ (t351 ++ t354)), (wrap64 (x8_2 + 1)), (by first | rfl | (simp; done) | (simp [*]; done)), (by first | rfl | (simp; done) | (simp [*]; done) | (simp; generalize ByteArray.toList _ = l_; cases l_ <;> rfl)), H', ⟨by have := HJ3.out; have := HK2.out; omega⟩, ⟨by (with_reducible repeat (first|apply bn|apply bd|apply ba)); exact BK339.out⟩, ⟨z8⟩⟩
           ·
            rw [if_neg c33] at H
            exact absurd H (by simp)
          ·
           rw [if_neg c32] at H
           exact absurd H (by simp)
         ·
          rw [if_neg c30] at H
          exact absurd H (by simp)
        ·
         rw [if_neg c29] at H
         exact absurd H (by simp)
       ·
        rw [if_neg c26] at H
        exact absurd H (by simp)
      ·
       rw [if_neg c25] at H
       have c25b0 : decide (x8_2 < (l1.length : Int)) = false := decide_eq_false c25
       clear c25
       obtain ⟨y355, hy355⟩ : ∃ y_ : List Int, y_ = (([(l2.length : Int)] : List Int)) := ⟨_, rfl⟩
       replace H : ((shuttlecockref02_Nums.f k2 y355).bind fun t358 => (if x7_2.size + t358.size ≤ 9223372036854775807 then (shuttlecockref07_Order.l1 k2 l2 (x7_2 ++ t358) 0 l0_0 l0_1) else (none))) = some r := by first | (rw [hy355]; with_reducible exact H) | (have H2_ := (Option.bind_some _ _).symm.trans H; rw [hy355]; with_reducible exact H2_) | (have H2_ := (Option.bind_some _ _).symm.trans H; with_reducible exact H2_) | with_reducible exact H | (rw [hy355]; exact H) | exact H
       have Ny355 := Am hy355
       clear hy355
       replace H := ob H
       obtain ⟨t358, A400, H⟩ := H
       (try dsimp only at H)
       have A40 := Am A400
       clear A400
       by_cases c41 : x7_2.size + t358.size ≤ 9223372036854775807
       ·
        rw [if_pos c41] at H
        have c41b0 := eq_true c41
        have c41b1 : decide (x7_2.size + t358.size ≤ 9223372036854775807) = true := decide_eq_true c41
        try have c41b2 : (9223372036854775807 < x7_2.size + t358.size) = False := eq_false (Nat.not_lt.2 c41)
        have H' := Am H
        clear H
        go_wp2_with (first | ((with_reducible refine gate_dst (N := 63) rfl ?_); (try (refine gate_guard (by rfl) ?_; dsimp only)); refine Kd.R_lit (Kd.int .i64) _ 3 ?hg (N := 63) ?hd (xs := ([(l2.length : Int)] : List Int)) (inner := [.int .i64 (l2.length : Int)]) (ok := fun _ => True) (okp := fun _ => True) ?hr ?hp (fun _ hk => hk) trivial (Below.refl _ _) (Nat.le_refl _) (by simp) ?_; (case hd => rfl); (case hg => rfl); (case hr => first | (go_simp; done) | (go_simp; rfl)); (case hp => exact (Reps.one (show Kd.M (Kd.int .i64) _ _ _ (l2.length : Int) [.int .i64 (l2.length : Int)] from rfl) (Reps.none _ _))); intro v356 w42 ho43 hb hg_ hnew_; clear hg_ hnew_; (first | rw [← Ny355.out] at ho43 | (simp only [Int.reduceToNat] at ho43; rw [← Ny355.out] at ho43)); have HO357 := Am (Kd.R_lower ho43 (below_size (z8))); replace BK339 := Am (blk_below (g := gb339) (o := .cells #[.slice A0_0 l0_0.length c0_0, .slice A0_1 l0_1.length c0_1] 25 (0, 0)) (by (with_reducible repeat (first|apply bn|apply bd|apply ba)); exact BK339.out) hb); replace HB := Am (below_step (z8) hb); clear hb ho43; obtain ⟨Ao44, co44, eo44⟩ := Kd.R_slice HO357.out; subst eo44) | ((with_reducible refine gate_callee (f := 33) rfl ?_); refine Own.gL_ (some 64) Try.func33 (#[.slice Ao44 y355.length co44]) (h := ?_); (with_reducible refine (shuttlecockref02_Nums.calls k2 _ _ y355 t358 _ ?side1 ?side2 A40.out).mono ?_); (case side1 => repeat (first | exact (Kd.R_reads' HO357.out).2.2 | (with_reducible refine Kd.C_alloc ?_ _) | (with_reducible refine Kd.C_drewN ?_ _) | (with_reducible refine Kd.C_drew ?_))); (case side2 => exact (Kd.R_reads' HO357.out).2.1); rintro e w45 ⟨rfl, hb⟩; refine ⟨_, rfl, ?_⟩; replace HO357 := Am (Kd.R_below (by (with_reducible repeat (first | apply Kd.R_alloc | apply Kd.R_drewN | apply Kd.R_drew)); exact HO357.out) hb); replace BK339 := Am (blk_below (g := gb339) (o := .cells #[.slice A0_0 l0_0.length c0_0, .slice A0_1 l0_1.length c0_1] 25 (0, 0)) (by (with_reducible repeat (first|apply bn|apply bd|apply ba)); exact BK339.out) hb); replace HB := Am (below_step (z8) hb); clear hb))
        go_loopg [7, 9] k2 (fun kq v7 v9 w' => ∃ (x7_3 : ByteArray) (x9_3 : Int), v7 = .string x7_3 ∧ v9 = .int .i64 x9_3 ∧ Aside0 (shuttlecockref07_Order.l1 kq l2 x7_3 x9_3 l0_0 l0_1 = some r) ∧ Aside0 (kq ≤ k2) ∧ Aside0 (w'.heap[gb339]? = some (.cells #[(.slice A0_0 l0_0.length c0_0), (.slice A0_1 l0_1.length c0_1)] 25 (0, 0))) ∧ Aside0 (Below w.heap.size w w'))
        case atStart => exact ⟨(x7_2 ++ t358), (0), (by first | rfl | (simp; done) | (simp [*]; done)), (by first | rfl | (simp; done) | (simp [*]; done) | (simp; generalize ByteArray.toList _ = l_; cases l_ <;> rfl)), H', ⟨Nat.le_refl _⟩, ⟨by (with_reducible repeat (first|apply bn|apply bd|apply ba)); exact BK339.out⟩, ⟨z8⟩⟩
        case round =>
         clear H'
         try clear c1
         try clear c2
         try clear p2
         try clear c3
         try clear p3
         try clear q3
         try clear hx3
         try clear c4
         try clear p6
         try clear c7
         try clear c9
         try clear c14
         try clear c16
         try clear c19
         try clear c25
         try clear c25b0
         try clear c26
         try clear c26b0
         try clear c29
         try clear c29b0
         try clear c30
         try clear c30b0
         try clear c32
         try clear c32b0
         try clear c32b1
         try clear c32b2
         try clear c33
         try clear c33b0
         try clear c33b1
         try clear c33b2
         try clear c34
         try clear p34
         try clear q34
         try clear hx34
         try clear p35
         try clear q35
         try clear hx35
         try clear c41
         try clear c41b0
         try clear c41b1
         try clear c41b2
         try clear hcz11_0
         try clear hcz11_1
         try clear hcz13_0
         try clear hcz13_1
         try clear hcz14_0
         try clear hcz14_1
         try clear hcz16_0
         try clear hcz16_1
         try clear hcz17_0
         try clear hcz17_1
         try clear hfz11_0
         try clear hfz11_1
         try clear hfz13_0
         try clear hfz13_1
         try clear hfz14_0
         try clear hfz14_1
         try clear hfz16_0
         try clear hfz16_1
         try clear hfz17_0
         try clear hfz17_1
         try clear hx347_0
         try clear hx352_0
         try clear hx353_0
         try clear p2
         try clear p347
         try clear p352
         try clear p353
         try clear q347
         try clear q352
         try clear q353
         obtain ⟨x7_3, x9_3, rfl, rfl, HA, HK3, BK339, HB⟩ := hrel
         cases gk with
         | zero => exact absurd HA.out (by simp [shuttlecockref07_Order.l1])
         | succ k3 =>
          have H := HA.out
          clear HA
          simp only [shuttlecockref07_Order.l1] at H
          by_cases c46 : x9_3 < (l2.length : Int)
          ·
           rw [if_pos c46] at H
           have c46b0 : decide (x9_3 < (l2.length : Int)) = true := decide_eq_true c46
           clear c46
           by_cases c47 : 0 ≤ x9_3
           ·
            rw [if_pos c47] at H
            have c47b0 : decide (0 ≤ x9_3) = true := decide_eq_true c47
            clear c47
            obtain ⟨ji48, hji48⟩ : ∃ j_ : Int, (wrap64 ((rd l2 x9_3) - 1)) = j_ := ⟨_, rfl⟩
            replace H : (if 0 ≤ (ji48) then (if (ji48) < (l0_1.length : Int) then ((shuttlecockref02_Nums.f k3 (([rd l2 x9_3, ((rd_L2 l0_1 (ji48)).length : Int)] : List Int))).bind fun t365 => (if x7_3.size + t365.size ≤ 9223372036854775807 then (shuttlecockref07_Order.l2 k3 l2 (x7_3 ++ t365) x9_3 (rd_L2 l0_1 (ji48)) 0 l0_0 l0_1) else (none))) else (none)) else (none)) = some r := by first | (rw [hji48] at H; exact H) | (simp only [hji48] at H ⊢; exact H)
            have hji48w : (IntKind.i64.wrap ((rd l2 x9_3) - 1)) = ji48 := (i64_w _).trans hji48
            by_cases c49 : 0 ≤ (ji48)
            ·
             rw [if_pos c49] at H
             have c49b0 : decide (0 ≤ (ji48)) = true := decide_eq_true c49
             clear c49
             by_cases c50 : (ji48) < (l0_1.length : Int)
             ·
              rw [if_pos c50] at H
              have c50b0 : decide ((ji48) < (l0_1.length : Int)) = true := decide_eq_true c50
              clear c50
              obtain ⟨y362, hy362⟩ : ∃ y_ : List Int, y_ = (([rd l2 x9_3, ((rd_L2 l0_1 (ji48)).length : Int)] : List Int)) := ⟨_, rfl⟩
              replace H : ((shuttlecockref02_Nums.f k3 y362).bind fun t365 => (if x7_3.size + t365.size ≤ 9223372036854775807 then (shuttlecockref07_Order.l2 k3 l2 (x7_3 ++ t365) x9_3 (rd_L2 l0_1 (ji48)) 0 l0_0 l0_1) else (none))) = some r := by first | (rw [hy362]; with_reducible exact H) | (have H2_ := (Option.bind_some _ _).symm.trans H; rw [hy362]; with_reducible exact H2_) | (have H2_ := (Option.bind_some _ _).symm.trans H; with_reducible exact H2_) | with_reducible exact H | (rw [hy362]; exact H) | exact H
              have Ny362 := Am hy362
              clear hy362
              replace H := ob H
              obtain ⟨t365, A510, H⟩ := H
              (try dsimp only at H)
              have A51 := Am A510
              clear A510
              by_cases c52 : x7_3.size + t365.size ≤ 9223372036854775807
              ·
               rw [if_pos c52] at H
               have c52b0 := eq_true c52
               have c52b1 : decide (x7_3.size + t365.size ≤ 9223372036854775807) = true := decide_eq_true c52
               try have c52b2 : (9223372036854775807 < x7_3.size + t365.size) = False := eq_false (Nat.not_lt.2 c52)
               have H' := Am H
               clear H
               try go_wp2
               replace BK339 := Am (bd BK339.out)
               replace HB := Am (b1 HB.out)
               have p359 : 0 ≤ (x9_3 : Int) := dz
               have q359 : x9_3 < (l2.length : Int) := dz
               obtain ⟨ad359, e359, hx359_0⟩ := Kd.at_int HR2.out x9_3 p359 q359
               have hw359_0 := hx359_0
               cases e359
               replace hx359_0 := (HB.out.cell (World.block_lt_of_cell? w _ hx359_0)).trans hx359_0
               replace p359 := eq_true p359
               replace q359 := eq_true q359
               have p360 : 0 ≤ ((ji48) : Int) := dz
               have q360 : (ji48) < (l0_1.length : Int) := dz
               obtain ⟨ad360, A360_0, c360_0, e360, hx360_0, hl360_0, hi360_0⟩ := at_L2 HR0_1.out (ji48) p360 q360
               have hw360_0 := hx360_0
               cases e360
               replace hx360_0 := (HB.out.cell (World.block_lt_of_cell? w _ hx360_0)).trans hx360_0
               have HR360_0 := Am hi360_0
               have HC360_0 := Am hl360_0
               clear hi360_0 hl360_0
               replace p360 := eq_true p360
               replace q360 := eq_true q360
               refine start_ (n := 10) (S := fun w' => w'.cell? ⟨gb339, 0, none⟩ = some (.slice A0_0 l0_0.length c0_0) ∧ w'.cell? ⟨gb339, 1, none⟩ = some (.slice (some ad360) l0_1.length c0_1) ∧ w'.cell? (ad359.add (x9_3).toNat) = some (.int .i64 (rd l2 x9_3)) ∧ w'.cell? (ad360.add ((ji48)).toNat) = some (.slice A360_0 (rd_L2 l0_1 (ji48)).length c360_0)) (ds := []) q19_21 (by kernel_rfl) rfl rfl ⟨(bc BK339.out 0).trans rfl, (bc BK339.out 1).trans rfl, ((HB.out.cell (World.block_lt_of_cell? w _ hw359_0)).trans hw359_0), ((HB.out.cell (World.block_lt_of_cell? w _ hw360_0)).trans hw360_0)⟩ (fun hHeld => ?_); refine with_tabW shuttlecockref07_Order.tab12 shuttlecockref07_Order.bits12 (fun HT_ HW_ => ?_)
               generalize wr.drew = w53 at BK339 HB HR360_0 hx359_0 hx360_0 hHeld ⊢
               refine Own.pr_ 0 (some 72) q19_22 HT_ (h := ?_)
               refine Own.pr_ 2 (some 74) q19_23 HT_ (h := ?_)
               refine Own.pr_ 3 (some 75) q19_24 HT_ (h := ?_)
               refine Own.pr_ 4 (some 76) q19_25 HT_ (h := ?_)
               refine Own.tk_ 1 (some 73) q19_26 HT_ HW_ hHeld (hy := by rintro w' ⟨s0, s1, s2, s3⟩; go_simp; with_reducible rfl) (h := ?_)
               refine Own.tk_ 5 (some 77) q19_27 HT_ HW_ hHeld (hy := by rintro w' ⟨s0, s1, s2, s3⟩; go_simp; with_reducible rfl) (h := ?_)
               refine Own.pr_ 6 (some 78) q19_28 HT_ (h := ?_)
               refine Own.pr_ 7 (some 79) q19_29 HT_ (h := ?_)
               refine Own.tk_ 8 (some 80) q19_30 HT_ HW_ hHeld (hy := by rintro w' ⟨s0, s1, s2, s3⟩; go_simp; with_reducible rfl) (h := ?_)
               refine Own.pr_ 9 (some 10) q19_31 HT_ (h := ?_)
               refine done_ (done_of HT_.out (by kernel_rfl)) ?_
               have p361 : 0 ≤ (x9_3 : Int) := dz
               have q361 : x9_3 < (l2.length : Int) := dz
               obtain ⟨ad361, e361, hx361_0⟩ := Kd.at_int HR2.out x9_3 p361 q361
               obtain rfl : ad359 = ad361 := (by injection e361)
               replace hx361_0 := (HB.out.cell (World.block_lt_of_cell? w _ hx361_0)).trans hx361_0
               replace p361 := eq_true p361
               replace q361 := eq_true q361
               try go_wp2_with (first | ((with_reducible refine gate_dst (N := 88) rfl ?_); (try (refine gate_guard (by rfl) ?_; dsimp only)); refine Kd.R_lit (Kd.int .i64) _ 3 ?hg (N := 88) ?hd (xs := ([rd l2 x9_3, ((rd_L2 l0_1 (ji48)).length : Int)] : List Int)) (inner := [.int .i64 (rd l2 x9_3), .int .i64 ((rd_L2 l0_1 (ji48)).length : Int)]) (ok := fun _ => True) (okp := fun _ => True) ?hr ?hp (fun _ hk => hk) trivial (Below.refl _ _) (Nat.le_refl _) (by simp) ?_; (case hd => rfl); (case hg => rfl); (case hr => first | (go_simp; done) | (go_simp; rfl)); (case hp => exact (Reps.one (show Kd.M (Kd.int .i64) _ _ _ (rd l2 x9_3) [.int .i64 (rd l2 x9_3)] from rfl) (Reps.one (show Kd.M (Kd.int .i64) _ _ _ ((rd_L2 l0_1 (ji48)).length : Int) [.int .i64 ((rd_L2 l0_1 (ji48)).length : Int)] from rfl) (Reps.none _ _)))); intro v363 w54 ho55 hb hg_ hnew_; clear hg_ hnew_; (first | rw [← Ny362.out] at ho55 | (simp only [Int.reduceToNat] at ho55; rw [← Ny362.out] at ho55)); have HO364 := Am (Kd.R_lower ho55 (below_size (z8))); replace BK339 := Am (blk_below (g := gb339) (o := .cells #[.slice A0_0 l0_0.length c0_0, .slice (some ad360) l0_1.length c0_1] 25 (0, 0)) (by (with_reducible repeat (first|apply bn|apply bd|apply ba)); exact BK339.out) hb); replace HB := Am (below_step (z8) hb); clear hb ho55; obtain ⟨Ao56, co56, eo56⟩ := Kd.R_slice HO364.out; subst eo56) | ((with_reducible refine gate_callee (f := 33) rfl ?_); refine Own.gL_ (some 89) Try.func33 (#[.slice Ao56 y362.length co56]) (h := ?_); (with_reducible refine (shuttlecockref02_Nums.calls k3 _ _ y362 t365 _ ?side1 ?side2 A51.out).mono ?_); (case side1 => repeat (first | exact (Kd.R_reads' HO364.out).2.2 | (with_reducible refine Kd.C_alloc ?_ _) | (with_reducible refine Kd.C_drewN ?_ _) | (with_reducible refine Kd.C_drew ?_))); (case side2 => exact (Kd.R_reads' HO364.out).2.1); rintro e w57 ⟨rfl, hb⟩; refine ⟨_, rfl, ?_⟩; replace HO364 := Am (Kd.R_below (by (with_reducible repeat (first | apply Kd.R_alloc | apply Kd.R_drewN | apply Kd.R_drew)); exact HO364.out) hb); replace BK339 := Am (blk_below (g := gb339) (o := .cells #[.slice A0_0 l0_0.length c0_0, .slice (some ad360) l0_1.length c0_1] 25 (0, 0)) (by (with_reducible repeat (first|apply bn|apply bd|apply ba)); exact BK339.out) hb); replace HB := Am (below_step (z8) hb); clear hb))
               go_loopg [7, 11] k3 (fun kq v7 v11 w' => ∃ (x7_4 : ByteArray) (x11_4 : Int), v7 = .string x7_4 ∧ v11 = .int .i64 x11_4 ∧ Aside0 (shuttlecockref07_Order.l2 kq l2 x7_4 x9_3 (rd_L2 l0_1 (ji48)) x11_4 l0_0 l0_1 = some r) ∧ Aside0 (kq ≤ k3) ∧ Aside0 (w'.heap[gb339]? = some (.cells #[(.slice A0_0 l0_0.length c0_0), (.slice (some ad360) l0_1.length c0_1)] 25 (0, 0))) ∧ Aside0 (Below w.heap.size w w'))
               case atStart => exact ⟨(x7_3 ++ t365), (0), (by first | rfl | (simp; done) | (simp [*]; done)), (by first | rfl | (simp; done) | (simp [*]; done) | (simp; generalize ByteArray.toList _ = l_; cases l_ <;> rfl)), H', ⟨Nat.le_refl _⟩, ⟨by (with_reducible repeat (first|apply bn|apply bd|apply ba)); exact BK339.out⟩, ⟨z8⟩⟩
               case round =>
                clear H'
                try clear c1
                try clear c2
                try clear p2
                try clear c3
                try clear p3
                try clear q3
                try clear hx3
                try clear c4
                try clear c5
                try clear p6
                try clear c7
                try clear c9
                try clear c14
                try clear c16
                try clear c19
                try clear c25
                try clear c25b0
                try clear c26
                try clear c26b0
                try clear c29
                try clear c29b0
                try clear c30
                try clear c30b0
                try clear c32
                try clear c32b0
                try clear c32b1
                try clear c32b2
                try clear c33
                try clear c33b0
                try clear c33b1
                try clear c33b2
                try clear c34
                try clear p34
                try clear q34
                try clear hx34
                try clear p35
                try clear q35
                try clear hx35
                try clear c36
                try clear p36
                try clear q36
                try clear hx36
                try clear c41
                try clear c41b0
                try clear c41b1
                try clear c41b2
                try clear c46
                try clear c46b0
                try clear c47
                try clear c47b0
                try clear c49
                try clear c49b0
                try clear c50
                try clear c50b0
                try clear c52
                try clear c52b0
                try clear c52b1
                try clear c52b2
                try clear hcz11_0
                try clear hcz11_1
                try clear hcz13_0
                try clear hcz13_1
                try clear hcz14_0
                try clear hcz14_1
                try clear hcz16_0
                try clear hcz16_1
                try clear hcz17_0
                try clear hcz17_1
                try clear hfz11_0
                try clear hfz11_1
                try clear hfz13_0
                try clear hfz13_1
                try clear hfz14_0
                try clear hfz14_1
                try clear hfz16_0
                try clear hfz16_1
                try clear hfz17_0
                try clear hfz17_1
                try clear hx347_0
                try clear hx352_0
                try clear hx353_0
                try clear hx359_0
                try clear hx360_0
                try clear hx361_0
                try clear p2
                try clear p3
                try clear p34
                try clear p347
                try clear p35
                try clear p352
                try clear p353
                try clear p359
                try clear p360
                try clear p361
                try clear p6
                try clear q3
                try clear q34
                try clear q347
                try clear q35
                try clear q352
                try clear q353
                try clear q359
                try clear q360
                try clear q361
                obtain ⟨x7_4, x11_4, rfl, rfl, HA, HK4, BK339, HB⟩ := hrel
                cases gk with
                | zero => exact absurd HA.out (by simp [shuttlecockref07_Order.l2])
                | succ k4 =>
                 have H := HA.out
                 clear HA
                 simp only [shuttlecockref07_Order.l2] at H
                 by_cases c58 : x11_4 < ((rd_L2 l0_1 (ji48)).length : Int)
                 ·
                  rw [if_pos c58] at H
                  have c58b0 : decide (x11_4 < ((rd_L2 l0_1 (ji48)).length : Int)) = true := decide_eq_true c58
                  clear c58
                  by_cases c59 : 0 ≤ x11_4
                  ·
                   rw [if_pos c59] at H
                   have c59b0 : decide (0 ≤ x11_4) = true := decide_eq_true c59
                   clear c59
                   obtain ⟨y368, hy368⟩ : ∃ y_ : List Int, y_ = (([(rd_T70 (rd_L2 l0_1 (ji48)) x11_4).f0, (rd_T70 (rd_L2 l0_1 (ji48)) x11_4).f1] : List Int)) := ⟨_, rfl⟩
                   replace H : ((shuttlecockref02_Nums.f k4 y368).bind fun t371 => (if x7_4.size + t371.size ≤ 9223372036854775807 then (shuttlecockref07_Order.l2 k4 l2 (x7_4 ++ t371) x9_3 (rd_L2 l0_1 (ji48)) (wrap64 (x11_4 + 1)) l0_0 l0_1) else (none))) = some r := by first | (rw [hy368]; with_reducible exact H) | (have H2_ := (Option.bind_some _ _).symm.trans H; rw [hy368]; with_reducible exact H2_) | (have H2_ := (Option.bind_some _ _).symm.trans H; with_reducible exact H2_) | with_reducible exact H | (rw [hy368]; exact H) | exact H
                   have Ny368 := Am hy368
                   clear hy368
                   replace H := ob H
                   obtain ⟨t371, A600, H⟩ := H
                   (try dsimp only at H)
                   have A60 := Am A600
                   clear A600
                   by_cases c61 : x7_4.size + t371.size ≤ 9223372036854775807
                   ·
                    rw [if_pos c61] at H
                    have c61b0 := eq_true c61
                    have c61b1 : decide (x7_4.size + t371.size ≤ 9223372036854775807) = true := decide_eq_true c61
                    try have c61b2 : (9223372036854775807 < x7_4.size + t371.size) = False := eq_false (Nat.not_lt.2 c61)
                    have H' := Am H
                    clear H
                    try go_wp2
                    replace BK339 := Am (bd BK339.out)
                    replace HB := Am (b1 HB.out)
                    have p366 : 0 ≤ (x11_4 : Int) := dz
                    have q366 : x11_4 < ((rd_L2 l0_1 (ji48)).length : Int) := dz
                    obtain ⟨ad366, e366, hx366_0, hx366_1⟩ := at_T70 HR360_0.out x11_4 p366 q366
                    have hw366_1 := hx366_1
                    have hw366_0 := hx366_0
                    cases e366
                    replace hx366_0 := (HB.out.cell (World.block_lt_of_cell? w _ hx366_0)).trans hx366_0
                    replace hx366_1 := (HB.out.cell (World.block_lt_of_cell? w _ hx366_1)).trans hx366_1
                    replace p366 := eq_true p366
                    replace q366 := eq_true q366
                    have p367 : 0 ≤ (x11_4 : Int) := dz
                    have q367 : x11_4 < ((rd_L2 l0_1 (ji48)).length : Int) := dz
                    obtain ⟨ad367, e367, hx367_0, hx367_1⟩ := at_T70 HR360_0.out x11_4 p367 q367
                    have hw367_1 := hx367_1
                    have hw367_0 := hx367_0
                    obtain rfl : ad366 = ad367 := (by injection e367)
                    replace hx367_0 := (HB.out.cell (World.block_lt_of_cell? w _ hx367_0)).trans hx367_0
                    replace hx367_1 := (HB.out.cell (World.block_lt_of_cell? w _ hx367_1)).trans hx367_1
                    replace p367 := eq_true p367
                    replace q367 := eq_true q367
                    refine start_ (n := 15) (S := fun w' => w'.cell? (ad366.add ((x11_4).toNat * 2)) = some (.int .i64 ((rd_T70 (rd_L2 l0_1 (ji48)) x11_4).f0)) ∧ w'.cell? ⟨(ad366.add ((x11_4).toNat * 2)).block, (ad366.add ((x11_4).toNat * 2)).off + 1, none⟩ = some (.int .i64 ((rd_T70 (rd_L2 l0_1 (ji48)) x11_4).f1)) ∧ w'.cell? (ad366.add ((x11_4).toNat * 2)) = some (.int .i64 ((rd_T70 (rd_L2 l0_1 (ji48)) x11_4).f0)) ∧ w'.cell? ⟨(ad366.add ((x11_4).toNat * 2)).block, (ad366.add ((x11_4).toNat * 2)).off + 1, none⟩ = some (.int .i64 ((rd_T70 (rd_L2 l0_1 (ji48)) x11_4).f1))) (ds := []) q19_32 (by kernel_rfl) rfl rfl ⟨((HB.out.cell (World.block_lt_of_cell? w _ hw366_0)).trans hw366_0), ((HB.out.cell (World.block_lt_of_cell? w _ hw366_1)).trans hw366_1), ((HB.out.cell (World.block_lt_of_cell? w _ hw367_0)).trans hw367_0), ((HB.out.cell (World.block_lt_of_cell? w _ hw367_1)).trans hw367_1)⟩ (fun hHeld => ?_); refine with_tabW shuttlecockref07_Order.tab17 shuttlecockref07_Order.bits17 (fun HT_ HW_ => ?_)
                    generalize wr.drew = w62 at BK339 HB hx366_0 hx366_1 hx367_0 hx367_1 hHeld ⊢
                    refine Own.pr_ 0 (some 97) q19_33 HT_ (h := ?_)
                    refine Own.pr_ 1 (some 98) q19_34 HT_ (h := ?_)
                    refine Own.pr_ 2 (some 99) q19_35 HT_ (h := ?_)
                    refine Own.pr_ 3 (some 100) q19_36 HT_ (h := ?_)
                    refine Own.pr_ 4 (some 101) q19_37 HT_ (h := ?_)
                    refine Own.pr_ 6 (some 103) q19_38 HT_ (h := ?_)
                    refine Own.pr_ 7 (some 104) q19_39 HT_ (h := ?_)
                    refine Own.pr_ 8 (some 105) q19_40 HT_ (h := ?_)
                    refine Own.pr_ 9 (some 106) q19_41 HT_ (h := ?_)
                    refine Own.tk_ 5 (some 102) q19_42 HT_ HW_ hHeld (hy := by rintro w' ⟨s0, s1, s2, s3⟩; go_simp; with_reducible rfl) (h := ?_)
                    refine Own.tk_ 10 (some 107) q19_43 HT_ HW_ hHeld (hy := by rintro w' ⟨s0, s1, s2, s3⟩; go_simp; with_reducible rfl) (h := ?_)
                    refine one_ (i := 11) (N := some 108) q19_44 rfl rfl (one_of HT_.out (by kernel_rfl)) (by decide) (fun K hK => ?_)
                    refine Kd.R_lit_step (Kd.int .i64) _ 3 ?hg (N := 108) ?hd (xs := ([(rd_T70 (rd_L2 l0_1 (ji48)) x11_4).f0, (rd_T70 (rd_L2 l0_1 (ji48)) x11_4).f1] : List Int)) (inner := [.int .i64 ((rd_T70 (rd_L2 l0_1 (ji48)) x11_4).f0), .int .i64 ((rd_T70 (rd_L2 l0_1 (ji48)) x11_4).f1)]) (ok := fun _ => True) (okp := fun _ => True) ?hr ?hp (fun _ hk => hk) trivial (Below.refl _ _) (Nat.le_refl _) (by simp) ?_; (case hd => rfl); (case hg => rfl); (case hr => first | (go_simp; done) | (go_simp; rfl)); (case hp => exact (Reps.one (show Kd.M (Kd.int .i64) _ _ _ ((rd_T70 (rd_L2 l0_1 (ji48)) x11_4).f0) [.int .i64 ((rd_T70 (rd_L2 l0_1 (ji48)) x11_4).f0)] from rfl) (Reps.one (show Kd.M (Kd.int .i64) _ _ _ ((rd_T70 (rd_L2 l0_1 (ji48)) x11_4).f1) [.int .i64 ((rd_T70 (rd_L2 l0_1 (ji48)) x11_4).f1)] from rfl) (Reps.none _ _))))
                    intro v369 w63 ho64 hb hg_ hnew_
                    clear hg_ hnew_
                    (first | rw [← Ny368.out] at ho64 | (simp only [Int.reduceToNat] at ho64; rw [← Ny368.out] at ho64))
                    have HO370 := Am (Kd.R_lower ho64 (below_size (z8)))
                    replace BK339 := Am (blk_below (g := gb339) (o := .cells #[.slice A0_0 l0_0.length c0_0, .slice (some ad360) l0_1.length c0_1] 25 (0, 0)) (by (with_reducible repeat (first|apply bn|apply bd|apply ba)); exact BK339.out) hb)
                    replace HB := Am (below_step (z8) hb)
                    clear hb ho64
                    obtain ⟨Ao65, co65, eo65⟩ := Kd.R_slice HO370.out
                    (first | subst eo65 | (injection eo65 with f1_ f2_ f3_; have f4_ := f1_.symm; have f5_ := f3_.symm; clear f1_ f2_ f3_; subst f4_; subst f5_))
                    refine hK.out _ _ ⟨((HB.out.cell (World.block_lt_of_cell? w _ hw366_0)).trans hw366_0), ((HB.out.cell (World.block_lt_of_cell? w _ hw366_1)).trans hw366_1), ((HB.out.cell (World.block_lt_of_cell? w _ hw367_0)).trans hw367_0), ((HB.out.cell (World.block_lt_of_cell? w _ hw367_1)).trans hw367_1)⟩ (fun hHeld => ?_)
                    clear hK K
                    refine norm_ (a' := ?_) ?_ ?_
                    rotate_left
                    ·
                     show Act.put _ (some 108) _ = _
                     simp only [Act.put, sI, sZ, sS, i64_w, i32_w]
                     rfl
                    refine one_ (i := 12) (N := some 109) q19_45 rfl rfl (one_of HT_.out (by kernel_rfl)) (by decide) (fun K hK => ?_)
                    refine goes_ Try.func33 (by kernel_rfl) rfl #[.slice Ao65 y368.length co65] (by rfl) rfl rfl (by (try simp only [List.map_toArray, List.map_cons, List.map_nil]); first | done | rfl | (simp only [List.length_drop, List.length_take]; rfl)) ?_
                    with_reducible refine (shuttlecockref02_Nums.calls k4 _ _ y368 t371 _ ?side1 ?side2 A60.out).mono ?_
                    (case side1 => repeat (first | exact (Kd.R_reads' HO370.out).2.2 | (with_reducible refine Kd.C_alloc ?_ _) | (with_reducible refine Kd.C_drewN ?_ _) | (with_reducible refine Kd.C_drew ?_)))
                    (case side2 => exact (Kd.R_reads' HO370.out).2.1)
                    rintro e w66 ⟨rfl, hb⟩
                    refine ⟨_, rfl, ?_⟩
                    replace HO370 := Am (Kd.R_below (by (with_reducible repeat (first | apply Kd.R_alloc | apply Kd.R_drewN | apply Kd.R_drew)); exact HO370.out) hb)
                    replace BK339 := Am (blk_below (g := gb339) (o := .cells #[.slice A0_0 l0_0.length c0_0, .slice (some ad360) l0_1.length c0_1] 25 (0, 0)) (by (with_reducible repeat (first|apply bn|apply bd|apply ba)); exact BK339.out) hb)
                    replace HB := Am (below_step (z8) hb)
                    (try clear hb)
                    (try clear hb2)
                    (try clear hk)
                    (try clear hi)
                    refine hK.out _ _ ⟨((HB.out.cell (World.block_lt_of_cell? w _ hw366_0)).trans hw366_0), ((HB.out.cell (World.block_lt_of_cell? w _ hw366_1)).trans hw366_1), ((HB.out.cell (World.block_lt_of_cell? w _ hw367_0)).trans hw367_0), ((HB.out.cell (World.block_lt_of_cell? w _ hw367_1)).trans hw367_1)⟩ (fun hHeld => ?_)
                    clear hK K
                    refine norm_ (a' := ?_) ?_ ?_
                    rotate_left
                    ·
                     show Act.put _ (some 109) _ = _
                     simp only [Act.put, sI, sZ, sS, i64_w, i32_w]
                     rfl
                    refine Own.pr_ 13 (some 110) q19_46 HT_ (h := ?_)
                    refine Own.pr_ 14 (some 7) q19_47 HT_ (h := ?_)
                    refine done_ (done_of HT_.out (by kernel_rfl)) ?_
                    try go_wp2
                    go_roundg k4
                    case measure => have := HJ3.out; have := HK2.out; have := HK3.out; have := HK4.out; omega
                    case rel => exact ⟨(x7_4 ++ t371), (wrap64 (x11_4 + 1)), (by first | rfl | (simp; done) | (simp [*]; done)), (by first | rfl | (simp; done) | (simp [*]; done) | (simp; generalize ByteArray.toList _ = l_; cases l_ <;> rfl)), H', ⟨by have := HJ3.out; have := HK2.out; have := HK3.out; have := HK4.out; omega⟩, ⟨by (with_reducible repeat (first|apply bn|apply bd|apply ba)); exact BK339.out⟩, ⟨z8⟩⟩
                   ·
                    rw [if_neg c61] at H
                    exact absurd H (by simp)
                  ·
                   rw [if_neg c59] at H
                   exact absurd H (by simp)
                 ·
                  rw [if_neg c58] at H
                  have c58b0 : decide (x11_4 < ((rd_L2 l0_1 (ji48)).length : Int)) = false := decide_eq_false c58
                  clear c58
                  have H' := Am H
                  clear H
                  go_wp2
                  go_roundg k4
                  case measure => have := HJ3.out; have := HK2.out; have := HK3.out; have := HK4.out; omega
                  case rel => exact ⟨(x7_4), (wrap64 (x9_3 + 1)), (by first | rfl | (simp; done) | (simp [*]; done)), (by first | rfl | (simp; done) | (simp [*]; done) | (simp; generalize ByteArray.toList _ = l_; cases l_ <;> rfl)), H', ⟨by have := HJ3.out; have := HK2.out; have := HK3.out; have := HK4.out; omega⟩, ⟨by (with_reducible repeat (first|apply bn|apply bd|apply ba)); exact BK339.out⟩, ⟨z8⟩⟩
              ·
               rw [if_neg c52] at H
               exact absurd H (by simp)
             ·
              rw [if_neg c50] at H
              exact absurd H (by simp)
            ·
             rw [if_neg c49] at H
             exact absurd H (by simp)
           ·
            rw [if_neg c47] at H
            exact absurd H (by simp)
          ·
           rw [if_neg c46] at H
           have c46b0 : decide (x9_3 < (l2.length : Int)) = false := decide_eq_false c46
           clear c46
           obtain rfl := Option.some.inj H
           go_wp2
           go_ret
           exact ⟨y0, z8⟩
       ·
        rw [if_neg c41] at H
        exact absurd H (by simp)

end Go.Proofs.Ytlmmlmmbnfcogaa.Q
