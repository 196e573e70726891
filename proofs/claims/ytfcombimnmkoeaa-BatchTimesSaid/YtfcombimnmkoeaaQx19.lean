-- printed by a program of this session (NOTES: hprint); not the kit's print
-- minified
-- halved
import Derived.Test.YtfcombimnmkoeaaAl
import Derived.Test.YtfcombimnmkoeaaQx0
import Derived.Test.YtfcombimnmkoeaaQx2
import Derived.Test.YtfcombimnmkoeaaQx5
import Derived.Test.YtfcombimnmkoeaaQx24
import Derived.Test.YtfcombimnmkoeaaQx7
import Derived.Test.YtfcombimnmkoeaaQx9
import Derived.Test.YtfcombimnmkoeaaQx29
import Derived.Test.YtfcombimnmkoeaaQx15
import Derived.Test.YtfcombimnmkoeaaQx18
namespace Go.Proofs.Ytfcombimnmkoeaa.Q
open Go.RowKit Go.Proofs.YtfcombimnmkoeaaW.PrintWords Go.Proofs.YtfcombimnmkoeaaW.PrintLast Go.Proofs.YtfcombimnmkoeaaW.PrintMore
attribute [local go_sem] max2_int min2_int max_two min_two max_three min_three max_four min_four   -- for this text's walks alone
set_option linter.unusedVariables false
set_option linter.unusedSimpArgs false

def q19_0 : Array Bool := let o := true; let z := false; #[z,z,z,z,z,z,z,z,z,z,z,z]
def q19_1 : Array Bool := let o := true; let z := false; #[o,z,z,z,z,z,z,z,z,z,z,z]
def q19_2 : Array Bool := let o := true; let z := false; #[o,o,z,z,z,z,z,z,z,z,z,z]
def q19_3 : Array Bool := let o := true; let z := false; #[o,o,o,z,z,z,z,z,z,z,z,z]
def q19_4 : Array Bool := let o := true; let z := false; #[o,o,o,z,o,z,z,z,z,z,z,z]
def q19_5 : Array Bool := let o := true; let z := false; #[o,o,o,z,o,z,o,z,z,z,z,z]
def q19_6 : Array Bool := let o := true; let z := false; #[o,o,o,z,o,z,o,o,z,z,z,z]
def q19_7 : Array Bool := let o := true; let z := false; #[o,o,o,z,o,z,o,o,o,z,z,z]
def q19_8 : Array Bool := let o := true; let z := false; #[o,o,o,z,o,z,o,o,o,o,z,z]
def q19_9 : Array Bool := let o := true; let z := false; #[o,o,o,o,o,z,o,o,o,o,z,z]
def q19_10 : Array Bool := let o := true; let z := false; #[o,o,o,o,o,o,o,o,o,o,z,z]
def q19_11 : Array Bool := let o := true; let z := false; #[o,o,o,o,o,o,o,o,o,o,o,z]
def q19_12 : Array Bool := let o := true; let z := false; #[o,o,o,o,o,o,o,o,o,o,o,o]
def q19_13 : Array Bool := let o := true; let z := false; #[o,o,o,o,z,z,z,z,z,z,z,z]
def q19_14 : Array Bool := let o := true; let z := false; #[o,o,o,o,o,z,z,z,z,z,z,z]
def q19_15 : Array Bool := let o := true; let z := false; #[o,o,o,o,o,o,z,z,z,z,z,z]
def q19_16 : Array Bool := let o := true; let z := false; #[o,o,o,o,o,o,o,z,z,z,z,z]
def q19_17 : Array Bool := let o := true; let z := false; #[o,o,o,o,o,o,o,z,o,z,z,z]
def q19_18 : Array Bool := let o := true; let z := false; #[o,o,o,o,o,o,o,z,o,o,z,z]
def q19_19 : Array Bool := let o := true; let z := false; #[z,z,z,z,z,z,z]
def q19_20 : Array Bool := let o := true; let z := false; #[o,z,z,z,z,z,z]
def q19_21 : Array Bool := let o := true; let z := false; #[o,z,o,z,z,z,z]
def q19_22 : Array Bool := let o := true; let z := false; #[o,o,o,z,z,z,z]
def q19_23 : Array Bool := let o := true; let z := false; #[o,o,o,o,z,z,z]
def q19_24 : Array Bool := let o := true; let z := false; #[o,o,o,o,o,z,z]
def q19_25 : Array Bool := let o := true; let z := false; #[o,o,o,o,o,o,z]
def q19_26 : Array Bool := let o := true; let z := false; #[o,o,o,o,o,o,o]
/-! ### shuttlecocklaw05_BatchTimes: function 5 -/
mutual
def shuttlecocklaw05_BatchTimes.j0 : Nat → List (S41) → Bool → Int → Int → Int → ByteArray → Option (Bool)
 | 0, _, _, _, _, _, _ => none
 | k + 1, x1, x29, x599000, x599001, x599002, x599003 => if x29 = true then ((shuttlecocklaw05_fixed.f k).bind fun t601 => (some t601)) else ((batch_Events.f k x599000 x599001 x599002 x599003).bind fun bt602 => (if bt602.2.2.2 = 0 then (shuttlecocklaw05_BatchTimes.l0 k x1 bt602.1 bt602.2.1 x599002 0 x599000 x599001 x599002 x599003) else (if (wrap64 ((bt602.1.length : Int) + (bt602.2.1.length : Int))) = 0 then (some (decide (bt602.2.2.1 ≤ (x599003.size : Int)))) else (none))))
def shuttlecocklaw05_BatchTimes.l0 : Nat → List (S41) → List (S41) → List Int → Int → Int → Int → Int → Int → ByteArray → Option (Bool)
 | 0, _, _, _, _, _, _, _, _, _ => none
 | k + 1, x1, x5, x6, x9, x10, x599000, x599001, x599002, x599003 => if x10 < (x5.length : Int) then (shuttlecocklaw05_BatchTimes.j2 k x1 x5 x6 x9 x10 (decide (x10 < (x6.length : Int))) x599000 x599001 x599002 x599003) else (shuttlecocklaw05_BatchTimes.j2 k x1 x5 x6 x9 x10 false x599000 x599001 x599002 x599003)
def shuttlecocklaw05_BatchTimes.j2 : Nat → List (S41) → List (S41) → List Int → Int → Int → Bool → Int → Int → Int → ByteArray → Option (Bool)
 | 0, _, _, _, _, _, _, _, _, _, _ => none
 | k + 1, x1, x5, x6, x9, x10, x64, x599000, x599001, x599002, x599003 => if x64 = true then (if 0 ≤ x10 then (if x10 < (x6.length : Int) then (if x10 < (x5.length : Int) then (if (wrap64 ((rd x6 x10) - x9)) = ((rd_T41 x5 x10).f1) then (shuttlecocklaw05_BatchTimes.l0 k x1 x5 x6 (rd x6 x10) (wrap64 (x10 + 1)) x599000 x599001 x599002 x599003) else (none)) else (none)) else (none)) else (none)) else (if (x5.length : Int) = (x6.length : Int) then ((shuttlecockref04_Bytes.f k x5).bind fun t613 => (shuttlecocklaw05_BatchTimes.j3 k x1 x5 x6 (t613.toList != x599003.toList) x599000 x599001 x599002 x599003)) else (shuttlecocklaw05_BatchTimes.j3 k x1 x5 x6 true x599000 x599001 x599002 x599003))
def shuttlecocklaw05_BatchTimes.j3 : Nat → List (S41) → List (S41) → List Int → Bool → Int → Int → Int → ByteArray → Option (Bool)
 | 0, _, _, _, _, _, _, _, _ => none
 | k + 1, x1, x5, x6, x94, x599000, x599001, x599002, x599003 => if x94 = true then (none) else (shuttlecocklaw05_BatchTimes.l1 k x1 x5 x6 0 x599000 x599001 x599002 x599003)
def shuttlecocklaw05_BatchTimes.l1 : Nat → List (S41) → List (S41) → List Int → Int → Int → Int → Int → ByteArray → Option (Bool)
 | 0, _, _, _, _, _, _, _, _ => none
 | k + 1, x1, x5, x6, x11, x599000, x599001, x599002, x599003 => if x11 < (x1.length : Int) then (if 0 ≤ x11 then ((shuttlecockref04_May.f k ((rd_T41 x1 x11).f0) ((rd_T41 x1 x11).f1) ((rd_T41 x1 x11).f2) ((rd_T41 x1 x11).f3)).bind fun t615 => (if t615 = true then (if ((rd_T41 x1 x11).f1) > 1000000 then (some true) else (shuttlecocklaw05_BatchTimes.l1 k x1 x5 x6 (wrap64 (x11 + 1)) x599000 x599001 x599002 x599003)) else (some true))) else (none)) else ((shuttlecockref04_Bytes.f k x1).bind fun t618 => (if x599003.size + t618.size ≤ 9223372036854775807 then ((batch_Events.f k x599000 x599001 x599002 (x599003 ++ t618)).bind fun bt619 => (if bt619.2.2.2 = 0 then (if (bt619.2.1.length : Int) = (wrap64 ((x6.length : Int) + (x1.length : Int))) then ((some (([] : List (S41)) : List (S41))).bind fun y627 => (if y627.length + x5.length < 2513169434916 then ((some (y627 ++ x5 : List (S41))).bind fun y630 => (if y630.length + x1.length < 2513169434916 then ((shuttlecockref04_All.f k bt619.1 (y630 ++ x1)).bind fun t636 => (if t636 = true then (if 0 ≤ (x6.length : Int) then (if (x6.length : Int) ≤ (bt619.2.1.length : Int) then ((shuttlecockref01_Ints.f k (bt619.2.1.take ((x6.length : Int) : Int).toNat) x6).bind fun t642 => (some t642)) else (none)) else (none)) else (none))) else (none))) else (none))) else (none)) else (if bt619.2.2.2 = 11 then (some true) else ((batch_May.f x599000 x599001 x599002 (x599003 ++ t618)).bind fun t643 => (some (!t643)))))) else (none)))
end
def shuttlecocklaw05_BatchTimes.f (k : Nat) (a0_0 : Int) (a0_1 : Int) (a0_2 : Int) (a0_3 : ByteArray) (l1 : List (S41)) : Option (Bool) := (shuttlecocklaw05_fixed.f k).bind fun t599 => (if t599 = true then (if (a0_3.size : Int) > 3000 then (shuttlecocklaw05_BatchTimes.j0 k l1 true a0_0 a0_1 a0_2 a0_3) else ((shuttlecockref04_Short.f k l1).bind fun t600 => (shuttlecocklaw05_BatchTimes.j0 k l1 (!t600) a0_0 a0_1 a0_2 a0_3))) else (shuttlecocklaw05_BatchTimes.j0 k l1 true a0_0 a0_1 a0_2 a0_3))
theorem shuttlecocklaw05_BatchTimes.mono_l : ∀ k, (∀ y0 y1 y2 y3 y4 y5, LeO (shuttlecocklaw05_BatchTimes.j0 k y0 y1 y2 y3 y4 y5) (shuttlecocklaw05_BatchTimes.j0 (k + 1) y0 y1 y2 y3 y4 y5)) ∧ (∀ y0 y1 y2 y3 y4 y5 y6 y7 y8, LeO (shuttlecocklaw05_BatchTimes.l0 k y0 y1 y2 y3 y4 y5 y6 y7 y8) (shuttlecocklaw05_BatchTimes.l0 (k + 1) y0 y1 y2 y3 y4 y5 y6 y7 y8)) ∧ (∀ y0 y1 y2 y3 y4 y5 y6 y7 y8 y9, LeO (shuttlecocklaw05_BatchTimes.j2 k y0 y1 y2 y3 y4 y5 y6 y7 y8 y9) (shuttlecocklaw05_BatchTimes.j2 (k + 1) y0 y1 y2 y3 y4 y5 y6 y7 y8 y9)) ∧ (∀ y0 y1 y2 y3 y4 y5 y6 y7, LeO (shuttlecocklaw05_BatchTimes.j3 k y0 y1 y2 y3 y4 y5 y6 y7) (shuttlecocklaw05_BatchTimes.j3 (k + 1) y0 y1 y2 y3 y4 y5 y6 y7)) ∧ (∀ y0 y1 y2 y3 y4 y5 y6 y7, LeO (shuttlecocklaw05_BatchTimes.l1 k y0 y1 y2 y3 y4 y5 y6 y7) (shuttlecocklaw05_BatchTimes.l1 (k + 1) y0 y1 y2 y3 y4 y5 y6 y7))
 | 0 => ⟨fun _ _ _ _ _ _ r h => by simp [shuttlecocklaw05_BatchTimes.j0] at h, fun _ _ _ _ _ _ _ _ _ r h => by simp [shuttlecocklaw05_BatchTimes.l0] at h, fun _ _ _ _ _ _ _ _ _ _ r h => by simp [shuttlecocklaw05_BatchTimes.j2] at h, fun _ _ _ _ _ _ _ _ r h => by simp [shuttlecocklaw05_BatchTimes.j3] at h, fun _ _ _ _ _ _ _ _ r h => by simp [shuttlecocklaw05_BatchTimes.l1] at h⟩
 | k + 1 => by
  obtain ⟨ih0, ih1, ih2, ih3, ih4⟩ := shuttlecocklaw05_BatchTimes.mono_l k
  refine ⟨?_, ?_, ?_, ?_, ?_⟩
  ·
   intro y0 y1 y2 y3 y4 y5
   unfold shuttlecocklaw05_BatchTimes.j0
   repeat' first
   | (with_reducible exact ih0 _ _ _ _ _ _)
   | (with_reducible exact ih1 _ _ _ _ _ _ _ _ _)
   | (with_reducible exact ih2 _ _ _ _ _ _ _ _ _ _)
   | (with_reducible exact ih3 _ _ _ _ _ _ _ _)
   | (with_reducible exact ih4 _ _ _ _ _ _ _ _)
   | (with_reducible exact batch_Events.mono _ _ _ _ _)
   | (with_reducible exact shuttlecocklaw05_fixed.mono _)
   | (with_reducible exact shuttlecockref01_Ints.mono _ _ _)
   | (with_reducible exact shuttlecockref04_All.mono _ _ _)
   | (with_reducible exact shuttlecockref04_Bytes.mono _ _)
   | (with_reducible exact shuttlecockref04_May.mono _ _ _ _ _)
   | (with_reducible exact shuttlecockref04_Short.mono _ _)
   | (with_reducible exact LeO.refl _)
   | (with_reducible exact LeO.none _)
   | (with_reducible refine LeO.ite ?_ ?_)
   | (with_reducible refine LeO.bind ?_ (fun _ => ?_))
   | exact ih0 _ _ _ _ _ _
   | exact ih1 _ _ _ _ _ _ _ _ _
   | exact ih2 _ _ _ _ _ _ _ _ _ _
   | exact ih3 _ _ _ _ _ _ _ _
   | exact ih4 _ _ _ _ _ _ _ _
   | exact batch_Events.mono _ _ _ _ _
   | exact shuttlecocklaw05_fixed.mono _
   | exact shuttlecockref01_Ints.mono _ _ _
   | exact shuttlecockref04_All.mono _ _ _
   | exact shuttlecockref04_Bytes.mono _ _
   | exact shuttlecockref04_May.mono _ _ _ _ _
   | exact shuttlecockref04_Short.mono _ _
   | exact LeO.none _
   | refine LeO.ite ?_ ?_
   | refine LeO.bind ?_ (fun _ => ?_)
  ·
   intro y0 y1 y2 y3 y4 y5 y6 y7 y8
   unfold shuttlecocklaw05_BatchTimes.l0
   repeat' first
   | (with_reducible exact ih0 _ _ _ _ _ _)
   | (with_reducible exact ih1 _ _ _ _ _ _ _ _ _)
   | (with_reducible exact ih2 _ _ _ _ _ _ _ _ _ _)
   | (with_reducible exact ih3 _ _ _ _ _ _ _ _)
   | (with_reducible exact ih4 _ _ _ _ _ _ _ _)
   | (with_reducible exact batch_Events.mono _ _ _ _ _)
   | (with_reducible exact shuttlecocklaw05_fixed.mono _)
   | (with_reducible exact shuttlecockref01_Ints.mono _ _ _)
   | (with_reducible exact shuttlecockref04_All.mono _ _ _)
   | (with_reducible exact shuttlecockref04_Bytes.mono _ _)
   | (with_reducible exact shuttlecockref04_May.mono _ _ _ _ _)
   | (with_reducible exact shuttlecockref04_Short.mono _ _)
   | (with_reducible exact LeO.refl _)
   | (with_reducible exact LeO.none _)
   | (with_reducible refine LeO.ite ?_ ?_)
   | (with_reducible refine LeO.bind ?_ (fun _ => ?_))
   | exact ih0 _ _ _ _ _ _
   | exact ih1 _ _ _ _ _ _ _ _ _
   | exact ih2 _ _ _ _ _ _ _ _ _ _
   | exact ih3 _ _ _ _ _ _ _ _
   | exact ih4 _ _ _ _ _ _ _ _
   | exact batch_Events.mono _ _ _ _ _
   | exact shuttlecocklaw05_fixed.mono _
   | exact shuttlecockref01_Ints.mono _ _ _
   | exact shuttlecockref04_All.mono _ _ _
   | exact shuttlecockref04_Bytes.mono _ _
   | exact shuttlecockref04_May.mono _ _ _ _ _
   | exact shuttlecockref04_Short.mono _ _
   | exact LeO.none _
   | refine LeO.ite ?_ ?_
   | refine LeO.bind ?_ (fun _ => ?_)
  ·
   intro y0 y1 y2 y3 y4 y5 y6 y7 y8 y9
   unfold shuttlecocklaw05_BatchTimes.j2
   repeat' first
   | (with_reducible exact ih0 _ _ _ _ _ _)
   | (with_reducible exact ih1 _ _ _ _ _ _ _ _ _)
   | (with_reducible exact ih2 _ _ _ _ _ _ _ _ _ _)
   | (with_reducible exact ih3 _ _ _ _ _ _ _ _)
   | (with_reducible exact ih4 _ _ _ _ _ _ _ _)
   | (with_reducible exact batch_Events.mono _ _ _ _ _)
   | (with_reducible exact shuttlecocklaw05_fixed.mono _)
   | (with_reducible exact shuttlecockref01_Ints.mono _ _ _)
   | (with_reducible exact shuttlecockref04_All.mono _ _ _)
   | (with_reducible exact shuttlecockref04_Bytes.mono _ _)
   | (with_reducible exact shuttlecockref04_May.mono _ _ _ _ _)
   | (with_reducible exact shuttlecockref04_Short.mono _ _)
   | (with_reducible exact LeO.refl _)
   | (with_reducible exact LeO.none _)
   | (with_reducible refine LeO.ite ?_ ?_)
   | (with_reducible refine LeO.bind ?_ (fun _ => ?_))
   | exact ih0 _ _ _ _ _ _
   | exact ih1 _ _ _ _ _ _ _ _ _
   | exact ih2 _ _ _ _ _ _ _ _ _ _
   | exact ih3 _ _ _ _ _ _ _ _
   | exact ih4 _ _ _ _ _ _ _ _
   | exact batch_Events.mono _ _ _ _ _
   | exact shuttlecocklaw05_fixed.mono _
   | exact shuttlecockref01_Ints.mono _ _ _
   | exact shuttlecockref04_All.mono _ _ _
   | exact shuttlecockref04_Bytes.mono _ _
   | exact shuttlecockref04_May.mono _ _ _ _ _
   | exact shuttlecockref04_Short.mono _ _
   | exact LeO.none _
   | refine LeO.ite ?_ ?_
   | refine LeO.bind ?_ (fun _ => ?_)
  ·
   intro y0 y1 y2 y3 y4 y5 y6 y7
   unfold shuttlecocklaw05_BatchTimes.j3
   repeat' first
   | (with_reducible exact ih0 _ _ _ _ _ _)
   | (with_reducible exact ih1 _ _ _ _ _ _ _ _ _)
   | (with_reducible exact ih2 _ _ _ _ _ _ _ _ _ _)
   | (with_reducible exact ih3 _ _ _ _ _ _ _ _)
   | (with_reducible exact ih4 _ _ _ _ _ _ _ _)
   | (with_reducible exact batch_Events.mono _ _ _ _ _)
   | (with_reducible exact shuttlecocklaw05_fixed.mono _)
   | (with_reducible exact shuttlecockref01_Ints.mono _ _ _)
   | (with_reducible exact shuttlecockref04_All.mono _ _ _)
   | (with_reducible exact shuttlecockref04_Bytes.mono _ _)
   | (with_reducible exact shuttlecockref04_May.mono _ _ _ _ _)
   | (with_reducible exact shuttlecockref04_Short.mono _ _)
   | (with_reducible exact LeO.refl _)
   | (with_reducible exact LeO.none _)
   | (with_reducible refine LeO.ite ?_ ?_)
   | (with_reducible refine LeO.bind ?_ (fun _ => ?_))
   | exact ih0 _ _ _ _ _ _
   | exact ih1 _ _ _ _ _ _ _ _ _
   | exact ih2 _ _ _ _ _ _ _ _ _ _
   | exact ih3 _ _ _ _ _ _ _ _
   | exact ih4 _ _ _ _ _ _ _ _
   | exact batch_Events.mono _ _ _ _ _
   | exact shuttlecocklaw05_fixed.mono _
   | exact shuttlecockref01_Ints.mono _ _ _
   | exact shuttlecockref04_All.mono _ _ _
   | exact shuttlecockref04_Bytes.mono _ _
   | exact shuttlecockref04_May.mono _ _ _ _ _
   | exact shuttlecockref04_Short.mono _ _
   | exact LeO.none _
   | refine LeO.ite ?_ ?_
   | refine LeO.bind ?_ (fun _ => ?_)
  ·
   intro y0 y1 y2 y3 y4 y5 y6 y7
   unfold shuttlecocklaw05_BatchTimes.l1
   repeat' first
   | (with_reducible exact ih0 _ _ _ _ _ _)
   | (with_reducible exact ih1 _ _ _ _ _ _ _ _ _)
   | (with_reducible exact ih2 _ _ _ _ _ _ _ _ _ _)
   | (with_reducible exact ih3 _ _ _ _ _ _ _ _)
   | (with_reducible exact ih4 _ _ _ _ _ _ _ _)
   | (with_reducible exact batch_Events.mono _ _ _ _ _)
   | (with_reducible exact shuttlecocklaw05_fixed.mono _)
   | (with_reducible exact shuttlecockref01_Ints.mono _ _ _)
   | (with_reducible exact shuttlecockref04_All.mono _ _ _)
   | (with_reducible exact shuttlecockref04_Bytes.mono _ _)
   | (with_reducible exact shuttlecockref04_May.mono _ _ _ _ _)
   | (with_reducible exact shuttlecockref04_Short.mono _ _)
   | (with_reducible exact LeO.refl _)
   | (with_reducible exact LeO.none _)
   | (with_reducible refine LeO.ite ?_ ?_)
   | (with_reducible refine LeO.bind ?_ (fun _ => ?_))
   | exact ih0 _ _ _ _ _ _
   | exact ih1 _ _ _ _ _ _ _ _ _
   | exact ih2 _ _ _ _ _ _ _ _ _ _
   | exact ih3 _ _ _ _ _ _ _ _
   | exact ih4 _ _ _ _ _ _ _ _
   | exact batch_Events.mono _ _ _ _ _
   | exact shuttlecocklaw05_fixed.mono _
   | exact shuttlecockref01_Ints.mono _ _ _
   | exact shuttlecockref04_All.mono _ _ _
   | exact shuttlecockref04_Bytes.mono _ _
   | exact shuttlecockref04_May.mono _ _ _ _ _
   | exact shuttlecockref04_Short.mono _ _
   | exact LeO.none _
   | refine LeO.ite ?_ ?_
   | refine LeO.bind ?_ (fun _ => ?_)
theorem shuttlecocklaw05_BatchTimes.mono : ∀ a0 a1 a2 a3 a4 k, LeO (shuttlecocklaw05_BatchTimes.f k a0 a1 a2 a3 a4) (shuttlecocklaw05_BatchTimes.f (k + 1) a0 a1 a2 a3 a4) := by
 intro a0 a1 a2 a3 a4 k
 obtain ⟨ih0, ih1, ih2, ih3, ih4⟩ := shuttlecocklaw05_BatchTimes.mono_l k
 unfold shuttlecocklaw05_BatchTimes.f
 repeat' first
   | (with_reducible exact ih0 _ _ _ _ _ _)
   | (with_reducible exact ih1 _ _ _ _ _ _ _ _ _)
   | (with_reducible exact ih2 _ _ _ _ _ _ _ _ _ _)
   | (with_reducible exact ih3 _ _ _ _ _ _ _ _)
   | (with_reducible exact ih4 _ _ _ _ _ _ _ _)
   | (with_reducible exact batch_Events.mono _ _ _ _ _)
   | (with_reducible exact shuttlecocklaw05_fixed.mono _)
   | (with_reducible exact shuttlecockref01_Ints.mono _ _ _)
   | (with_reducible exact shuttlecockref04_All.mono _ _ _)
   | (with_reducible exact shuttlecockref04_Bytes.mono _ _)
   | (with_reducible exact shuttlecockref04_May.mono _ _ _ _ _)
   | (with_reducible exact shuttlecockref04_Short.mono _ _)
   | (with_reducible exact LeO.refl _)
   | (with_reducible exact LeO.none _)
   | (with_reducible refine LeO.ite ?_ ?_)
   | (with_reducible refine LeO.bind ?_ (fun _ => ?_))
   | exact ih0 _ _ _ _ _ _
   | exact ih1 _ _ _ _ _ _ _ _ _
   | exact ih2 _ _ _ _ _ _ _ _ _ _
   | exact ih3 _ _ _ _ _ _ _ _
   | exact ih4 _ _ _ _ _ _ _ _
   | exact batch_Events.mono _ _ _ _ _
   | exact shuttlecocklaw05_fixed.mono _
   | exact shuttlecockref01_Ints.mono _ _ _
   | exact shuttlecockref04_All.mono _ _ _
   | exact shuttlecockref04_Bytes.mono _ _
   | exact shuttlecockref04_May.mono _ _ _ _ _
   | exact shuttlecockref04_Short.mono _ _
   | exact LeO.none _
   | refine LeO.ite ?_ ?_
   | refine LeO.bind ?_ (fun _ => ?_)
def shuttlecocklaw05_BatchTimes.T10 : Bool × List (List Nat × List Nat) := (true, [([], []), ([], []), ([0, 1], [0, 1]), ([2], [2]), ([], []), ([3, 4], [3, 4]), ([], []), ([], []), ([6, 7], [6, 7]), ([8], [8]), ([9], [9]), ([5, 10], [5, 10])])
def shuttlecocklaw05_BatchTimes.B10 : List Nat := [0, 0, 3, 7, 0, 31, 0, 0, 192, 448, 960, 2047]
theorem shuttlecocklaw05_BatchTimes.tab10 : rtab .any (opsOf Try.f5 10) = shuttlecocklaw05_BatchTimes.T10 := by kernel_rfl
theorem shuttlecocklaw05_BatchTimes.bits10 : waitsOk shuttlecocklaw05_BatchTimes.T10.2 shuttlecocklaw05_BatchTimes.B10 = true := by kernel_rfl
def shuttlecocklaw05_BatchTimes.T13 : Bool × List (List Nat × List Nat) := (true, [([], []), ([0], [0]), ([], []), ([2], [2]), ([1, 3], [1, 3]), ([4], [4]), ([5], [5]), ([6, 5, 5], [5, 6]), ([5], [5]), ([8, 5], [5, 8]), ([7, 9, 5], [5, 7, 9]), ([5, 10], [5, 10])])
def shuttlecocklaw05_BatchTimes.B13 : List Nat := [0, 1, 0, 4, 15, 31, 63, 127, 63, 319, 1023, 2047]
theorem shuttlecocklaw05_BatchTimes.tab13 : rtab .any (opsOf Try.f5 13) = shuttlecocklaw05_BatchTimes.T13 := by kernel_rfl
theorem shuttlecocklaw05_BatchTimes.bits13 : waitsOk shuttlecocklaw05_BatchTimes.T13.2 shuttlecocklaw05_BatchTimes.B13 = true := by kernel_rfl
set_option maxHeartbeats 8000000 in
set_option maxRecDepth 100000 in
theorem shuttlecocklaw05_BatchTimes.calls (k : Nat) (a0_0 : Int) (a0_1 : Int) (a0_2 : Int) (a0_3 : ByteArray) (P1_ : Nat → Prop) (A1 : Option Addr) (c1 : Nat) (l1 : List (S41)) (r : Bool) (w : World) (hs1 : Kd.V k41 41 w w.heap.size (fun k_ => P1_ k_) (.slice A1 l1.length c1) l1) (h : shuttlecocklaw05_BatchTimes.f k a0_0 a0_1 a0_2 a0_3 l1 = some r) :
  Calls Try.prog 5 #[.agg #[.int .i64 a0_0, .int .i64 a0_1, .int .i64 a0_2, .string a0_3], .slice A1 l1.length c1] w fun e w' => e = .returned (.bool r) ∧ Below w.heap.size w w' := by
 have hu23 := Try.underlying23
 have hu41 := Try.underlying41
 have HO1 := Am (show Kd.V k41 41 w w.heap.size (fun k_ => (P1_ k_ ∨ w.heap.size ≤ k_)) (.slice A1 l1.length c1) l1 from Kd.V_mono hs1 (fun k_ hk => .inl hk))
 have HB := Am (Below.refl w.heap.size w)
 have H : ((shuttlecocklaw05_fixed.f k).bind fun t599 => (if t599 = true then (if (a0_3.size : Int) > 3000 then (shuttlecocklaw05_BatchTimes.j0 k l1 true a0_0 a0_1 a0_2 a0_3) else ((shuttlecockref04_Short.f k l1).bind fun t600 => (shuttlecocklaw05_BatchTimes.j0 k l1 (!t600) a0_0 a0_1 a0_2 a0_3))) else (shuttlecocklaw05_BatchTimes.j0 k l1 true a0_0 a0_1 a0_2 a0_3))) = some r := h
 clear h
 have HC3 := Am H
 clear H
 go_enter Try.func5, Try.ntmps5
 go_upto_region 1 with (first | ((with_reducible refine gate_dst (N := 2) rfl ?_); (try (refine gate_guard (by rfl) ?_; dsimp only)); refine box_event ?hg (N := 2) ?hd (cs := #[.int .i64 a0_0, .int .i64 a0_1, .int .i64 a0_2, .string a0_3]) (t := 23) ?hr ?_; (case hd => rfl); (case hg => rfl); (case hr => first | (go_simp; done) | (go_simp; rfl)); intro gb598 hg w4 hbox hb; have n0_ := Am (Kd.V_below (Kd.V_elderB (by (with_reducible repeat (first | apply Kd.V_alloc | apply Kd.V_drewN | apply Kd.V_drew)); exact HO1.out) gb598 (Nat.le_of_eq hg.symm)) hb); have n1_ := Am (below_step (by repeat (first | (with_reducible first | exact HB.out | apply bl | apply pN | apply b1) | exact HB.out | exact HBo.out)) hb); have n2_ := Am (hbox); have n3_ := Am ((by rw [hg]; exact (below_size (by repeat (first | (with_reducible first | exact HB.out | apply bl | apply pN | apply b1) | exact HB.out | exact HBo.out))) : w.heap.size ≤ gb598)); have n4_ := Am ((by rw [hg]; exact (below_size (by repeat (first | (with_reducible first | exact HB.out | apply bl | apply pN | apply b1) | exact HB.out | exact HBo.out))) : w.heap.size ≤ gb598)); clear HO1; clear HB; have HO1 := n0_; have HB := n1_; have BK598 := n2_; have GW598 := n3_; have GE598 := n4_; clear n0_ n1_ n2_ n3_ n4_; clear hb hbox hg))
 (try simp only [Act.put, sI, sZ, sS])
 go_cut [29] (fun v29 wc => ∃ (kq : Nat) (x29_2 : Bool), v29 = .bool x29_2 ∧ Aside0 (shuttlecocklaw05_BatchTimes.j0 kq l1 x29_2 a0_0 a0_1 a0_2 a0_3 = some r) ∧ Aside0 (kq ≤ k) ∧ Aside0 (Kd.V k41 41 wc w.heap.size (fun k_ => (P1_ k_ ∨ w.heap.size ≤ k_) ∧ k_ ≠ gb598) (.slice A1 l1.length c1) l1) ∧ Aside0 (wc.heap[gb598]? = some (.cells #[.int .i64 a0_0, .int .i64 a0_1, .int .i64 a0_2, .string a0_3] 23 (0, 0))) ∧ Aside0 (Below w.heap.size w wc))
 case first =>
  have H := HC3.out
  clear HC3
  replace H := ob H
  obtain ⟨t599, A50, H⟩ := H
  replace H : (if t599 = true then (if (a0_3.size : Int) > 3000 then (shuttlecocklaw05_BatchTimes.j0 k l1 true a0_0 a0_1 a0_2 a0_3) else ((shuttlecockref04_Short.f k l1).bind fun t600 => (shuttlecocklaw05_BatchTimes.j0 k l1 (!t600) a0_0 a0_1 a0_2 a0_3))) else (shuttlecocklaw05_BatchTimes.j0 k l1 true a0_0 a0_1 a0_2 a0_3)) = some r := H
  have A5 := Am A50
  clear A50
  by_cases c6 : t599 = true
  ·
   subst c6
   have H1 : (if (a0_3.size : Int) > 3000 then (shuttlecocklaw05_BatchTimes.j0 k l1 true a0_0 a0_1 a0_2 a0_3) else ((shuttlecockref04_Short.f k l1).bind fun t600 => (shuttlecocklaw05_BatchTimes.j0 k l1 (!t600) a0_0 a0_1 a0_2 a0_3))) = some r := by rw [if_pos rfl] at H; exact H
   clear H
   have H := H1
   clear H1
   by_cases c7 : (a0_3.size : Int) > 3000
   ·
    rw [if_pos c7] at H
    have c7b0 : decide (3000 < (a0_3.size : Int)) = true := decide_eq_true c7
    have c7b1 : decide (3000 < a0_3.size) = true := decide_eq_true (by omega)
    clear c7
    (first | rw [c7b0] | (simp only [i64_w, i32_w]; rw [c7b0]) | skip)
    have H' := Am H
    clear H
    go_wp2_with (first | ((with_reducible refine gate_callee (f := 8) rfl ?_); refine goesL_ (some 17) rfl rfl Try.func8 (by kernel_rfl) rfl #[] rfl (by (try simp only [List.map_toArray, List.map_cons, List.map_nil]); first | done | rfl | (simp only [List.length_drop, List.length_take]; rfl)) ?_; (with_reducible refine (shuttlecocklaw05_fixed.calls k  true _ A5.out).mono ?_); rintro e w8 ⟨rfl, hb⟩; refine ⟨_, rfl, ?_⟩; have n0_ := Am (Kd.V_below (by (with_reducible repeat (first | apply Kd.V_alloc | apply Kd.V_drewN | apply Kd.V_drew)); exact HO1.out) hb); have n1_ := Am (blk_below (g := gb598) (o := .cells #[.int .i64 a0_0, .int .i64 a0_1, .int .i64 a0_2, .string a0_3] 23 (0, 0)) (by (with_reducible repeat (first | refine bn ?_ _ | refine bd ?_ | refine ba ?_ _)); exact BK598.out) hb); have n2_ := Am (below_step (by repeat (first | (with_reducible first | exact HB.out | apply bl | apply pN | apply b1 | refine bs ?_ GE598.out) | exact HB.out | exact HBo.out)) hb); clear HO1; clear BK598; clear HB; have HO1 := n0_; have BK598 := n1_; have HB := n2_; clear n0_ n1_ n2_; (try clear hb); (try clear hb2); (try clear hk); (try clear hi); have hcz9_0 : w8.cell? ⟨gb598, 0, none⟩ = some (.int .i64 a0_0) := (bc BK598.out 0).trans rfl; have hcz9_1 : w8.cell? ⟨gb598, 1, none⟩ = some (.int .i64 a0_1) := (bc BK598.out 1).trans rfl; have hcz9_2 : w8.cell? ⟨gb598, 2, none⟩ = some (.int .i64 a0_2) := (bc BK598.out 2).trans rfl; have hcz9_3 : w8.cell? ⟨gb598, 3, none⟩ = some (.string a0_3) := (bc BK598.out 3).trans rfl; have hfz9_0 := bf BK598.out 0; have hfz9_1 := bf BK598.out 1; have hfz9_2 := bf BK598.out 2; have hfz9_3 := bf BK598.out 3))
    go_meet
    case rel => exact ⟨_, (true), (by first | rfl | (simp; done) | (simp [*]; done)), H', ⟨by first | omega | exact Nat.le_refl _⟩, ⟨by (with_reducible repeat (first | apply Kd.V_alloc | apply Kd.V_drewN | apply Kd.V_drew)); exact HO1.out⟩, ⟨by (with_reducible repeat (first | refine bn ?_ _ | refine bd ?_ | refine ba ?_ _)); exact BK598.out⟩, ⟨by repeat (first | (with_reducible first | exact HB.out | apply bl | apply pN | apply b1 | refine bs ?_ GE598.out) | exact HB.out | exact HBo.out)⟩⟩
   ·
    rw [if_neg c7] at H
    have c7b0 : decide (3000 < (a0_3.size : Int)) = false := decide_eq_false c7
    have c7b1 : decide (3000 < a0_3.size) = false := decide_eq_false (by omega)
    clear c7
    (first | rw [c7b0] | (simp only [i64_w, i32_w]; rw [c7b0]) | skip)
    replace H := ob H
    obtain ⟨t600, A100, H⟩ := H
    replace H : (shuttlecocklaw05_BatchTimes.j0 k l1 (!t600) a0_0 a0_1 a0_2 a0_3) = some r := H
    have A10 := Am A100
    clear A100
    have H' := Am H
    clear H
    go_wp2_with (first | ((with_reducible refine gate_callee (f := 8) rfl ?_); refine goesL_ (some 17) rfl rfl Try.func8 (by kernel_rfl) rfl #[] rfl (by (try simp only [List.map_toArray, List.map_cons, List.map_nil]); first | done | rfl | (simp only [List.length_drop, List.length_take]; rfl)) ?_; (with_reducible refine (shuttlecocklaw05_fixed.calls k  true _ A5.out).mono ?_); rintro e w11 ⟨rfl, hb⟩; refine ⟨_, rfl, ?_⟩; have n0_ := Am (Kd.V_below (by (with_reducible repeat (first | apply Kd.V_alloc | apply Kd.V_drewN | apply Kd.V_drew)); exact HO1.out) hb); have n1_ := Am (blk_below (g := gb598) (o := .cells #[.int .i64 a0_0, .int .i64 a0_1, .int .i64 a0_2, .string a0_3] 23 (0, 0)) (by (with_reducible repeat (first | refine bn ?_ _ | refine bd ?_ | refine ba ?_ _)); exact BK598.out) hb); have n2_ := Am (below_step (by repeat (first | (with_reducible first | exact HB.out | apply bl | apply pN | apply b1 | refine bs ?_ GE598.out) | exact HB.out | exact HBo.out)) hb); clear HO1; clear BK598; clear HB; have HO1 := n0_; have BK598 := n1_; have HB := n2_; clear n0_ n1_ n2_; (try clear hb); (try clear hb2); (try clear hk); (try clear hi); have hcz12_0 : w11.cell? ⟨gb598, 0, none⟩ = some (.int .i64 a0_0) := (bc BK598.out 0).trans rfl; have hcz12_1 : w11.cell? ⟨gb598, 1, none⟩ = some (.int .i64 a0_1) := (bc BK598.out 1).trans rfl; have hcz12_2 : w11.cell? ⟨gb598, 2, none⟩ = some (.int .i64 a0_2) := (bc BK598.out 2).trans rfl; have hcz12_3 : w11.cell? ⟨gb598, 3, none⟩ = some (.string a0_3) := (bc BK598.out 3).trans rfl; have hfz12_0 := bf BK598.out 0; have hfz12_1 := bf BK598.out 1; have hfz12_2 := bf BK598.out 2; have hfz12_3 := bf BK598.out 3) | (go_at_call 19; (with_reducible refine (shuttlecockref04_Short.calls k _ _ l1 t600 _ ?side1 ?side2 A10.out).mono ?_); (case side1 => repeat (first | exact (Kd.V_reads' HO1.out).2.2 | (with_reducible refine Kd.C_alloc ?_ _) | (with_reducible refine Kd.C_drewN ?_ _) | (with_reducible refine Kd.C_drew ?_))); (case side2 => exact (Kd.V_reads' HO1.out).2.1); rintro e w' ⟨rfl, ⟨nd, rfl⟩⟩))
    go_meet
    case rel => exact ⟨_, (!t600), (by first | rfl | (simp; done) | (simp [*]; done)), H', ⟨by first | omega | exact Nat.le_refl _⟩, ⟨by (with_reducible repeat (first | apply Kd.V_alloc | apply Kd.V_drewN | apply Kd.V_drew)); exact HO1.out⟩, ⟨by (with_reducible repeat (first | refine bn ?_ _ | refine bd ?_ | refine ba ?_ _)); exact BK598.out⟩, ⟨by repeat (first | (with_reducible first | exact HB.out | apply bl | apply pN | apply b1 | refine bs ?_ GE598.out) | exact HB.out | exact HBo.out)⟩⟩
  ·
   replace c6 := Bool.eq_false_iff.mpr c6
   subst c6
   have H1 : (shuttlecocklaw05_BatchTimes.j0 k l1 true a0_0 a0_1 a0_2 a0_3) = some r := by rw [if_neg (show ¬ (false = true) by decide)] at H; exact H
   clear H
   have H := H1
   clear H1
   have H' := Am H
   clear H
   go_wp2_with (first | ((with_reducible refine gate_callee (f := 8) rfl ?_); refine goesL_ (some 17) rfl rfl Try.func8 (by kernel_rfl) rfl #[] rfl (by (try simp only [List.map_toArray, List.map_cons, List.map_nil]); first | done | rfl | (simp only [List.length_drop, List.length_take]; rfl)) ?_; (with_reducible refine (shuttlecocklaw05_fixed.calls k  false _ A5.out).mono ?_); rintro e w13 ⟨rfl, hb⟩; refine ⟨_, rfl, ?_⟩; have n0_ := Am (Kd.V_below (by (with_reducible repeat (first | apply Kd.V_alloc | apply Kd.V_drewN | apply Kd.V_drew)); exact HO1.out) hb); have n1_ := Am (blk_below (g := gb598) (o := .cells #[.int .i64 a0_0, .int .i64 a0_1, .int .i64 a0_2, .string a0_3] 23 (0, 0)) (by (with_reducible repeat (first | refine bn ?_ _ | refine bd ?_ | refine ba ?_ _)); exact BK598.out) hb); have n2_ := Am (below_step (by repeat (first | (with_reducible first | exact HB.out | apply bl | apply pN | apply b1 | refine bs ?_ GE598.out) | exact HB.out | exact HBo.out)) hb); clear HO1; clear BK598; clear HB; have HO1 := n0_; have BK598 := n1_; have HB := n2_; clear n0_ n1_ n2_; (try clear hb); (try clear hb2); (try clear hk); (try clear hi)))
   go_meet
   case rel => exact ⟨_, (true), (by first | rfl | (simp; done) | (simp [*]; done)), H', ⟨by first | omega | exact Nat.le_refl _⟩, ⟨by (with_reducible repeat (first | apply Kd.V_alloc | apply Kd.V_drewN | apply Kd.V_drew)); exact HO1.out⟩, ⟨by (with_reducible repeat (first | refine bn ?_ _ | refine bd ?_ | refine ba ?_ _)); exact BK598.out⟩, ⟨by repeat (first | (with_reducible first | exact HB.out | apply bl | apply pN | apply b1 | refine bs ?_ GE598.out) | exact HB.out | exact HBo.out)⟩⟩
 case rest =>
  clear HC3
  try clear c1
  try clear p2
  try clear c5
  try clear c6
  try clear c7
  try clear c7b0
  try clear c7b1
  try clear c8
  try clear hcz12_0
  try clear hcz12_1
  try clear hcz12_2
  try clear hcz12_3
  try clear hcz9_0
  try clear hcz9_1
  try clear hcz9_2
  try clear hcz9_3
  try clear hfz12_0
  try clear hfz12_1
  try clear hfz12_2
  try clear hfz12_3
  try clear hfz9_0
  try clear hfz9_1
  try clear hfz9_2
  try clear hfz9_3
  obtain ⟨kq, x29_2, rfl, HA, HJ2, HO_1, BK598, HB⟩ := hcut
  cases kq with
  | zero => exact absurd HA.out (by simp [shuttlecocklaw05_BatchTimes.j0])
  | succ kj2 =>
   have H := HA.out
   clear HA
   simp only [shuttlecocklaw05_BatchTimes.j0] at H
   by_cases c14 : x29_2 = true
   ·
    subst c14
    have H1 : ((shuttlecocklaw05_fixed.f kj2).bind fun t601 => (some t601)) = some r := by rw [if_pos rfl] at H; exact H
    clear H
    have H := H1
    clear H1
    replace H := ob H
    obtain ⟨t601, A150, H⟩ := H
    replace H : (some t601) = some r := H
    have A15 := Am A150
    clear A150
    obtain rfl := Option.some.inj H
    go_wp2_with (first | ((with_reducible refine gate_callee (f := 8) rfl ?_); refine goesL_ (some 30) rfl rfl Try.func8 (by kernel_rfl) rfl #[] rfl (by (try simp only [List.map_toArray, List.map_cons, List.map_nil]); first | done | rfl | (simp only [List.length_drop, List.length_take]; rfl)) ?_; (with_reducible refine (shuttlecocklaw05_fixed.calls kj2  t601 _ A15.out).mono ?_); rintro e w16 ⟨rfl, hb⟩; refine ⟨_, rfl, ?_⟩; have n0_ := Am (Kd.V_below (by (with_reducible repeat (first | apply Kd.V_alloc | apply Kd.V_drewN | apply Kd.V_drew)); exact HO_1.out) hb); have n1_ := Am (blk_below (g := gb598) (o := .cells #[.int .i64 a0_0, .int .i64 a0_1, .int .i64 a0_2, .string a0_3] 23 (0, 0)) (by (with_reducible repeat (first | refine bn ?_ _ | refine bd ?_ | refine ba ?_ _)); exact BK598.out) hb); have n2_ := Am (below_step (by repeat (first | (with_reducible first | exact HB.out | apply bl | apply pN | apply b1 | refine bs ?_ GE598.out) | exact HB.out | exact HBo.out)) hb); clear HO_1; clear BK598; clear HB; have HO_1 := n0_; have BK598 := n1_; have HB := n2_; clear n0_ n1_ n2_; (try clear hb); (try clear hb2); (try clear hk); (try clear hi)))
    go_ret
    exact ⟨by first | rfl | (simp [errW_none, errW_some] <;> rfl) | (simp [*, errW_none, errW_some] <;> rfl) | (simp [Aid.ne_nil, Aid.eq_nil, errW_none, errW_some]; done), by repeat (first | (with_reducible first | exact HB.out | apply bl | apply pN | apply b1 | refine bs ?_ GE598.out) | exact HB.out | exact HBo.out)⟩
   ·
    replace c14 := Bool.eq_false_iff.mpr c14
    subst c14
    have H1 : ((batch_Events.f kj2 a0_0 a0_1 a0_2 a0_3).bind fun bt602 => (if bt602.2.2.2 = 0 then (shuttlecocklaw05_BatchTimes.l0 kj2 l1 bt602.1 bt602.2.1 a0_2 0 a0_0 a0_1 a0_2 a0_3) else (if (wrap64 ((bt602.1.length : Int) + (bt602.2.1.length : Int))) = 0 then (some (decide (bt602.2.2.1 ≤ (a0_3.size : Int)))) else (none)))) = some r := by rw [if_neg (show ¬ (false = true) by decide)] at H; exact H
    clear H
    have H := H1
    clear H1
    replace H := ob H
    obtain ⟨⟨t602, t605, t608, t609⟩, A170, H⟩ := H
    replace H : (if t609 = 0 then (shuttlecocklaw05_BatchTimes.l0 kj2 l1 t602 t605 a0_2 0 a0_0 a0_1 a0_2 a0_3) else (if (wrap64 ((t602.length : Int) + (t605.length : Int))) = 0 then (some (decide (t608 ≤ (a0_3.size : Int)))) else (none))) = some r := H
    have A17 := Am A170
    clear A170
    by_cases c18 : t609 = 0
    ·
     rw [if_pos c18] at H
     have c18b0 : (t609 == 0) = true := beq_iff_eq.mpr c18
     have c18b1 : (t609 != 0) = false := bne_eq_false_iff_eq.mpr c18
     clear c18
     have H' := Am H
     clear H
     have hcz19_0 : wc.cell? ⟨gb598, 0, none⟩ = some (.int .i64 a0_0) := (bc BK598.out 0).trans rfl
     have hcz19_1 : wc.cell? ⟨gb598, 1, none⟩ = some (.int .i64 a0_1) := (bc BK598.out 1).trans rfl
     have hcz19_2 : wc.cell? ⟨gb598, 2, none⟩ = some (.int .i64 a0_2) := (bc BK598.out 2).trans rfl
     have hcz19_3 : wc.cell? ⟨gb598, 3, none⟩ = some (.string a0_3) := (bc BK598.out 3).trans rfl
     have hfz19_0 := bf BK598.out 0
     have hfz19_1 := bf BK598.out 1
     have hfz19_2 := bf BK598.out 2
     have hfz19_3 := bf BK598.out 3
     go_wp2_with (first | ((with_reducible refine gate_callee (f := 11) rfl ?_); refine goesL_ (some 33) rfl rfl Try.func11 (by kernel_rfl) rfl #[.agg #[.int .i64 a0_0, .int .i64 a0_1, .int .i64 a0_2, .string a0_3]] rfl (by (try simp only [List.map_toArray, List.map_cons, List.map_nil]); first | done | rfl | (simp only [List.length_drop, List.length_take]; rfl)) ?_; (with_reducible refine (batch_Events.calls kj2 a0_0 a0_1 a0_2 a0_3 t602 t605 t608 t609 _ A17.out).mono ?_); rintro e w20 ⟨v603, v606, rfl, ho0, ho1, hb⟩; refine ⟨_, rfl, ?_⟩; have n0_ := Am (Kd.V_mono (Kd.V_told (Kd.V_told (Kd.V_old (by (with_reducible repeat (first | apply Kd.V_alloc | apply Kd.V_drewN | apply Kd.V_drew)); exact HO_1.out) hb) (Kd.S_base ho0)) (Kd.R_base ho1)) (fun _ h_ => h_.1)); have n1_ := Am (Kd.N_lower (Kd.N_mono (ok' := fun k_ => (P1_ k_ ∨ w.heap.size ≤ k_) ∧ some k_ ≠ (v606 : Value).ownBlock ∧ k_ ≠ gb598) (Kd.S_N (Kd.S_bound ho0)) (fun k_ hk_ => ⟨(.inr (Nat.le_trans (below_size (by repeat (first | (with_reducible first | exact HB.out | apply bl | apply pN | apply b1 | refine bs ?_ GE598.out) | exact HB.out | exact HBo.out))) hk_.2.1)), hk_.1, (Kd.freshB (g := gb598) (o := .cells #[.int .i64 a0_0, .int .i64 a0_1, .int .i64 a0_2, .string a0_3] 23 (0, 0)) (by (with_reducible repeat (first | refine bn ?_ _ | refine bd ?_ | refine ba ?_ _)); exact BK598.out) k_ hk_.2.1)⟩)) (below_size (by repeat (first | (with_reducible first | exact HB.out | apply bl | apply pN | apply b1 | refine bs ?_ GE598.out) | exact HB.out | exact HBo.out)))); have n2_ := Am (Kd.R_lower (Kd.R_newM (M := fun k_ => (w.heap.size ≤ k_)) ho1 (below_size (by repeat (first | (with_reducible first | exact HB.out | apply bl | apply pN | apply b1 | refine bs ?_ GE598.out) | exact HB.out | exact HBo.out))) (fun k_ h_ => h_)) (below_size (by repeat (first | (with_reducible first | exact HB.out | apply bl | apply pN | apply b1 | refine bs ?_ GE598.out) | exact HB.out | exact HBo.out)))); have n3_ := Am (blk_below (g := gb598) (o := .cells #[.int .i64 a0_0, .int .i64 a0_1, .int .i64 a0_2, .string a0_3] 23 (0, 0)) (by (with_reducible repeat (first | refine bn ?_ _ | refine bd ?_ | refine ba ?_ _)); exact BK598.out) hb); have n4_ := Am (below_step (by repeat (first | (with_reducible first | exact HB.out | apply bl | apply pN | apply b1 | refine bs ?_ GE598.out) | exact HB.out | exact HBo.out)) hb); clear HO_1; clear BK598; clear HB; have HO_1 := n0_; have HO604 := n1_; have HO607 := n2_; have BK598 := n3_; have HB := n4_; clear n0_ n1_ n2_ n3_ n4_; (try clear hb); (try clear hb2); (try clear hk); (try clear hi); (try clear ho0); (try clear ho1); have hcz21_0 : w20.cell? ⟨gb598, 0, none⟩ = some (.int .i64 a0_0) := (bc BK598.out 0).trans rfl; have hcz21_1 : w20.cell? ⟨gb598, 1, none⟩ = some (.int .i64 a0_1) := (bc BK598.out 1).trans rfl; have hcz21_2 : w20.cell? ⟨gb598, 2, none⟩ = some (.int .i64 a0_2) := (bc BK598.out 2).trans rfl; have hcz21_3 : w20.cell? ⟨gb598, 3, none⟩ = some (.string a0_3) := (bc BK598.out 3).trans rfl; have hfz21_0 := bf BK598.out 0; have hfz21_1 := bf BK598.out 1; have hfz21_2 := bf BK598.out 2; have hfz21_3 := bf BK598.out 3))
     go_loopg [9, 10] kj2 (fun kq v9 v10 w' => ∃ (x9_2 : Int) (x10_2 : Int), v9 = .int .i64 x9_2 ∧ v10 = .int .i64 x10_2 ∧ Aside0 (shuttlecocklaw05_BatchTimes.l0 kq l1 t602 t605 x9_2 x10_2 a0_0 a0_1 a0_2 a0_3 = some r) ∧ Aside0 (kq ≤ kj2) ∧ Aside0 (Kd.V k41 41 w' w.heap.size (fun k_ => (P1_ k_ ∨ w.heap.size ≤ k_) ∧ some k_ ≠ (v603 : Value).ownBlock ∧ some k_ ≠ (v606 : Value).ownBlock ∧ k_ ≠ gb598) (.slice A1 l1.length c1) l1) ∧ Aside0 (Kd.N k41 41 w' w.heap.size (fun k_ => (P1_ k_ ∨ w.heap.size ≤ k_) ∧ some k_ ≠ (v606 : Value).ownBlock ∧ k_ ≠ gb598) v603 t602) ∧ Aside0 (Kd.R (Kd.int .i64) 3 w' w.heap.size (fun k_ => (w.heap.size ≤ k_)) v606 t605) ∧ Aside0 (w'.heap[gb598]? = some (.cells #[.int .i64 a0_0, .int .i64 a0_1, .int .i64 a0_2, .string a0_3] 23 (0, 0))) ∧ Aside0 (Below w.heap.size w w'))
     case atStart => exact ⟨(a0_2), (0), (by first | rfl | (simp; done) | (simp [*]; done)), (by first | rfl | (simp; done) | (simp [*]; done)), H', ⟨Nat.le_refl _⟩, ⟨by (with_reducible repeat (first | apply Kd.V_alloc | apply Kd.V_drewN | apply Kd.V_drew)); exact Kd.V_mono HO_1.out (fun _ hk => ⟨hk.1.1.1, ⟨hk.1.2, ⟨hk.2, hk.1.1.2⟩⟩⟩)⟩, ⟨by (with_reducible repeat (first | apply Kd.N_alloc | apply Kd.N_drewN | apply Kd.N_drew)); exact HO604.out⟩, ⟨by (with_reducible repeat (first | apply Kd.R_alloc | apply Kd.R_drewN | apply Kd.R_drew)); exact Kd.R_mono HO607.out (fun _ hk => hk.1)⟩, ⟨by (with_reducible repeat (first | refine bn ?_ _ | refine bd ?_ | refine ba ?_ _)); exact BK598.out⟩, ⟨by repeat (first | (with_reducible first | exact HB.out | apply bl | apply pN | apply b1 | refine bs ?_ GE598.out) | exact HB.out | exact HBo.out)⟩⟩
     case round =>
      clear H'
      try clear c1
      try clear p2
      try clear c5
      try clear c6
      try clear p6
      try clear c7
      try clear c7b0
      try clear c7b1
      try clear c8
      try clear c11
      try clear c14
      try clear c18
      try clear c18b0
      try clear c18b1
      try clear hcz12_0
      try clear hcz12_1
      try clear hcz12_2
      try clear hcz12_3
      try clear hcz19_0
      try clear hcz19_1
      try clear hcz19_2
      try clear hcz19_3
      try clear hcz21_0
      try clear hcz21_1
      try clear hcz21_2
      try clear hcz21_3
      try clear hcz9_0
      try clear hcz9_1
      try clear hcz9_2
      try clear hcz9_3
      try clear hfz12_0
      try clear hfz12_1
      try clear hfz12_2
      try clear hfz12_3
      try clear hfz19_0
      try clear hfz19_1
      try clear hfz19_2
      try clear hfz19_3
      try clear hfz21_0
      try clear hfz21_1
      try clear hfz21_2
      try clear hfz21_3
      try clear hfz9_0
      try clear hfz9_1
      try clear hfz9_2
      try clear hfz9_3
      try clear p2
      obtain ⟨x9_2, x10_2, rfl, rfl, HA, HK2, HO_1, HO_5, HO_6, BK598, HB⟩ := hrel
      cases gk with
      | zero => exact absurd HA.out (by simp [shuttlecocklaw05_BatchTimes.l0])
      | succ k2 =>
       have H := HA.out
       clear HA
       simp only [shuttlecocklaw05_BatchTimes.l0] at H
       have HC22 := Am H
       clear H
       go_upto_region 8 with (fail)
       go_cut [64] (fun v64 wc => ∃ (kq : Nat) (x64_21 : Bool), v64 = .bool x64_21 ∧ Aside0 (shuttlecocklaw05_BatchTimes.j2 kq l1 t602 t605 x9_2 x10_2 x64_21 a0_0 a0_1 a0_2 a0_3 = some r) ∧ Aside0 (kq ≤ k2) ∧ Aside0 (Kd.V k41 41 wc w.heap.size (fun k_ => (P1_ k_ ∨ w.heap.size ≤ k_) ∧ some k_ ≠ (v603 : Value).ownBlock ∧ some k_ ≠ (v606 : Value).ownBlock ∧ k_ ≠ gb598) (.slice A1 l1.length c1) l1) ∧ Aside0 (Kd.N k41 41 wc w.heap.size (fun k_ => (P1_ k_ ∨ w.heap.size ≤ k_) ∧ some k_ ≠ (v606 : Value).ownBlock ∧ k_ ≠ gb598) v603 t602) ∧ Aside0 (Kd.R (Kd.int .i64) 3 wc w.heap.size (fun k_ => (w.heap.size ≤ k_)) v606 t605) ∧ Aside0 (wc.heap[gb598]? = some (.cells #[.int .i64 a0_0, .int .i64 a0_1, .int .i64 a0_2, .string a0_3] 23 (0, 0))) ∧ Aside0 (Below w.heap.size w wc))
       case first =>
        have H := HC22.out
        clear HC22
        by_cases c23 : x10_2 < (t602.length : Int)
        ·
         rw [if_pos c23] at H
         have c23b0 : decide (x10_2 < (t602.length : Int)) = true := decide_eq_true c23
         clear c23
         (first | rw [c23b0] | (simp only [i64_w, i32_w]; rw [c23b0]) | skip)
         have H' := Am H
         clear H
         obtain ⟨Ao24, co24, eo24⟩ := Kd.N_slice HO_5.out
         subst eo24
         obtain ⟨Ao25, co25, eo25⟩ := Kd.R_slice HO_6.out
         subst eo25
         go_wp2
         go_meet
         case rel => exact ⟨_, (decide (x10_2 < (t605.length : Int))), (by first | rfl | (simp; done) | (simp [*]; done)), H', ⟨by have := HJ2.out; have := HK2.out; first | omega | exact Nat.le_refl _⟩, ⟨by (with_reducible repeat (first | apply Kd.V_alloc | apply Kd.V_drewN | apply Kd.V_drew)); exact HO_1.out⟩, ⟨by (with_reducible repeat (first | apply Kd.N_alloc | apply Kd.N_drewN | apply Kd.N_drew)); exact HO_5.out⟩, ⟨by (with_reducible repeat (first | apply Kd.R_alloc | apply Kd.R_drewN | apply Kd.R_drew)); exact HO_6.out⟩, ⟨by (with_reducible repeat (first | refine bn ?_ _ | refine bd ?_ | refine ba ?_ _)); exact BK598.out⟩, ⟨by repeat (first | (with_reducible first | exact HB.out | apply bl | apply pN | apply b1 | refine bs ?_ GE598.out) | exact HB.out | exact HBo.out)⟩⟩
        ·
         rw [if_neg c23] at H
         have c23b0 : decide (x10_2 < (t602.length : Int)) = false := decide_eq_false c23
         clear c23
         (first | rw [c23b0] | (simp only [i64_w, i32_w]; rw [c23b0]) | skip)
         have H' := Am H
         clear H
         obtain ⟨Ao26, co26, eo26⟩ := Kd.N_slice HO_5.out
         subst eo26
         go_wp2
         go_meet
         case rel => exact ⟨_, (false), (by first | rfl | (simp; done) | (simp [*]; done)), H', ⟨by have := HJ2.out; have := HK2.out; first | omega | exact Nat.le_refl _⟩, ⟨by (with_reducible repeat (first | apply Kd.V_alloc | apply Kd.V_drewN | apply Kd.V_drew)); exact HO_1.out⟩, ⟨by (with_reducible repeat (first | apply Kd.N_alloc | apply Kd.N_drewN | apply Kd.N_drew)); exact HO_5.out⟩, ⟨by (with_reducible repeat (first | apply Kd.R_alloc | apply Kd.R_drewN | apply Kd.R_drew)); exact HO_6.out⟩, ⟨by (with_reducible repeat (first | refine bn ?_ _ | refine bd ?_ | refine ba ?_ _)); exact BK598.out⟩, ⟨by repeat (first | (with_reducible first | exact HB.out | apply bl | apply pN | apply b1 | refine bs ?_ GE598.out) | exact HB.out | exact HBo.out)⟩⟩
       case rest =>
        clear HC22
        try clear c1
        try clear c2
        try clear p2
        try clear c5
        try clear c6
        try clear p6
        try clear c7
        try clear c7b0
        try clear c7b1
        try clear c8
        try clear c11
        try clear c14
        try clear c18
        try clear c18b0
        try clear c18b1
        try clear c23
        try clear c23b0
        try clear hcz12_0
        try clear hcz12_1
        try clear hcz12_2
        try clear hcz12_3
        try clear hcz19_0
        try clear hcz19_1
        try clear hcz19_2
        try clear hcz19_3
        try clear hcz21_0
        try clear hcz21_1
        try clear hcz21_2
        try clear hcz21_3
        try clear hcz9_0
        try clear hcz9_1
        try clear hcz9_2
        try clear hcz9_3
        try clear hfz12_0
        try clear hfz12_1
        try clear hfz12_2
        try clear hfz12_3
        try clear hfz19_0
        try clear hfz19_1
        try clear hfz19_2
        try clear hfz19_3
        try clear hfz21_0
        try clear hfz21_1
        try clear hfz21_2
        try clear hfz21_3
        try clear hfz9_0
        try clear hfz9_1
        try clear hfz9_2
        try clear hfz9_3
        try clear p2
        try clear p6
        obtain ⟨kq, x64_21, rfl, HA, HJ21, HO_1, HO_5, HO_6, BK598, HB⟩ := hcut
        cases kq with
        | zero => exact absurd HA.out (by simp [shuttlecocklaw05_BatchTimes.j2])
        | succ kj21 =>
         have H := HA.out
         clear HA
         simp only [shuttlecocklaw05_BatchTimes.j2] at H
         by_cases c27 : x64_21 = true
         ·
          subst c27
          have H1 : (if 0 ≤ x10_2 then (if x10_2 < (t605.length : Int) then (if x10_2 < (t602.length : Int) then (if (wrap64 ((rd t605 x10_2) - x9_2)) = ((rd_T41 t602 x10_2).f1) then (shuttlecocklaw05_BatchTimes.l0 kj21 l1 t602 t605 (rd t605 x10_2) (wrap64 (x10_2 + 1)) a0_0 a0_1 a0_2 a0_3) else (none)) else (none)) else (none)) else (none)) = some r := by rw [if_pos rfl] at H; exact H
          clear H
          have H := H1
          clear H1
          by_cases c28 : 0 ≤ x10_2
          ·
           rw [if_pos c28] at H
           have c28b0 : decide (0 ≤ x10_2) = true := decide_eq_true c28
           clear c28
           by_cases c29 : x10_2 < (t605.length : Int)
           ·
            rw [if_pos c29] at H
            have c29b0 : decide (x10_2 < (t605.length : Int)) = true := decide_eq_true c29
            clear c29
            by_cases c30 : x10_2 < (t602.length : Int)
            ·
             rw [if_pos c30] at H
             have c30b0 : decide (x10_2 < (t602.length : Int)) = true := decide_eq_true c30
             clear c30
             by_cases c31 : (wrap64 ((rd t605 x10_2) - x9_2)) = ((rd_T41 t602 x10_2).f1)
             ·
              rw [if_pos c31] at H
              have c31b0 : ((wrap64 ((rd t605 x10_2) - x9_2)) == ((rd_T41 t602 x10_2).f1)) = true := beq_iff_eq.mpr c31
              have c31b1 : ((wrap64 ((rd t605 x10_2) - x9_2)) != ((rd_T41 t602 x10_2).f1)) = false := bne_eq_false_iff_eq.mpr c31
              clear c31
              have H' := Am H
              clear H
              try go_wp2
              have n0_ := Am (Kd.V_drew HO_1.out)
              have n1_ := Am (Kd.N_drew HO_5.out)
              have n2_ := Am (Kd.R_drew HO_6.out)
              have n3_ := Am (bd BK598.out)
              have n4_ := Am (b1 HB.out)
              clear HO_1
              clear HO_5
              clear HO_6
              clear BK598
              clear HB
              have HO_1 := n0_
              have HO_5 := n1_
              have HO_6 := n2_
              have BK598 := n3_
              have HB := n4_
              clear n0_ n1_ n2_ n3_ n4_
              obtain ⟨Ao33, co33, eo33⟩ := Kd.R_slice HO_6.out
              (first | subst eo33 | (injection eo33 with f1_ f2_ f3_; have f4_ := f1_.symm; have f5_ := f3_.symm; clear f1_ f2_ f3_; subst f4_; subst f5_))
              have p610 : 0 ≤ (x10_2 : Int) := of_decide_eq_true (by first | (with_reducible assumption) | assumption)
              have q610 : x10_2 < (t605.length : Int) := of_decide_eq_true (by first | (with_reducible assumption) | assumption)
              obtain ⟨ad610, e610, hx610_0⟩ := Kd.at_int (Kd.R_reads' HO_6.out).2.2 x10_2 p610 q610
              cases e610
              replace p610 := eq_true p610
              replace q610 := eq_true q610
              obtain ⟨Ao34, co34, eo34⟩ := Kd.N_slice HO_5.out
              (first | subst eo34 | (injection eo34 with f1_ f2_ f3_; have f4_ := f1_.symm; have f5_ := f3_.symm; clear f1_ f2_ f3_; subst f4_; subst f5_))
              have p611 : 0 ≤ (x10_2 : Int) := of_decide_eq_true (by first | (with_reducible assumption) | assumption)
              have q611 : x10_2 < (t602.length : Int) := of_decide_eq_true (by first | (with_reducible assumption) | assumption)
              obtain ⟨ad611, A611_2, c611_2, e611, hx611_0, hx611_1, hx611_2, hx611_3, hl611_2, hi611_2⟩ := at_T41 (Kd.N_reads' HO_5.out).2.2 x10_2 p611 q611
              cases e611
              obtain ⟨ce611, hce611, hMe611, hcc611⟩ := Kd.N_get HO_5.out z41 x10_2 p611 (by first | exact q611 | exact of_decide_eq_true (by first | (with_reducible assumption) | assumption) | (have e_ := (Kd.N_reads' HO_5.out).1; omega))
              obtain ⟨ua611_2, uc611_2, rfl, ul611_2, ge611_2⟩ := k41_openF hMe611
              have hv611_2 := hcc611 2 _ rfl
              rw [add_field _ _ 2 (by omega)] at hv611_2
              replace hv611_2 := Option.some.inj (hv611_2.symm.trans hx611_2)
              injection hv611_2 with hva_ hvn_ hvc_
              rw [hva_] at ge611_2
              rw [hvc_] at ul611_2
              have HL611_2 := Am (show Kd.V (Kd.int .i64) 3 _ w.heap.size _ _ ((rd_T41 t602 x10_2).f2) from Kd.V_mk ul611_2 ge611_2)
              clear hva_ hvn_ hvc_ ge611_2 ul611_2
              clear hcc611 hce611
              have HR611_2 := Am hi611_2
              have HC611_2 := Am hl611_2
              clear hi611_2 hl611_2
              replace p611 := eq_true p611
              replace q611 := eq_true q611
              refine start_ (n := 12) (S := fun w' => w'.cell? (ad610.add (x10_2).toNat) = some (.int .i64 (rd t605 x10_2)) ∧ w'.cell? (ad611.add ((x10_2).toNat * 4)) = some (.int .i64 ((rd_T41 t602 x10_2).f0)) ∧ w'.cell? ⟨(ad611.add ((x10_2).toNat * 4)).block, (ad611.add ((x10_2).toNat * 4)).off + 1, none⟩ = some (.int .i64 ((rd_T41 t602 x10_2).f1)) ∧ w'.cell? ⟨(ad611.add ((x10_2).toNat * 4)).block, (ad611.add ((x10_2).toNat * 4)).off + 2, none⟩ = some (.slice A611_2 ((rd_T41 t602 x10_2).f2).length c611_2) ∧ w'.cell? ⟨(ad611.add ((x10_2).toNat * 4)).block, (ad611.add ((x10_2).toNat * 4)).off + 3, none⟩ = some (.string ((rd_T41 t602 x10_2).f3))) (ds := []) q19_0 (by kernel_rfl) rfl rfl ⟨hx610_0, hx611_0, hx611_1, hx611_2, hx611_3⟩ (fun hHeld => ?_); refine with_tabW shuttlecocklaw05_BatchTimes.tab10 shuttlecocklaw05_BatchTimes.bits10 (fun HT_ HW_ => ?_)
              generalize wc.drew = w32 at HO_1 HO_5 HO_6 BK598 HB HL611_2 HR611_2 hx610_0 hx611_0 hx611_1 hx611_2 hx611_3 hHeld ⊢
              refine Own.pr_ 0 (some 67) q19_1 HT_ (h := ?_)
              refine Own.pr_ 1 (some 68) q19_2 HT_ (h := ?_)
              refine Own.pr_ 2 (some 69) q19_3 HT_ (h := ?_)
              refine Own.pr_ 4 (some 71) q19_4 HT_ (h := ?_)
              refine Own.pr_ 6 (some 73) q19_5 HT_ (h := ?_)
              refine Own.pr_ 7 (some 74) q19_6 HT_ (h := ?_)
              refine Own.pr_ 8 (some 75) q19_7 HT_ (h := ?_)
              refine Own.pr_ 9 (some 76) q19_8 HT_ (h := ?_)
              refine Own.tk_ 3 (some 70) q19_9 HT_ HW_ hHeld (hy := by rintro w' ⟨s0, s1, s2, s3, s4⟩; go_simp; with_reducible rfl) (h := ?_)
              refine Own.pr_ 5 (some 72) q19_10 HT_ (h := ?_)
              refine Own.tk_ 10 (some 77) q19_11 HT_ HW_ hHeld (hy := by rintro w' ⟨s0, s1, s2, s3, s4⟩; go_simp; with_reducible rfl) (h := ?_)
              refine Own.pr_ 11 (some 78) q19_12 HT_ (h := ?_)
              refine done_ (done_of HT_.out (by kernel_rfl)) ?_
              have p612 : 0 ≤ (x10_2 : Int) := of_decide_eq_true (by first | (with_reducible assumption) | assumption)
              have q612 : x10_2 < (t605.length : Int) := of_decide_eq_true (by first | (with_reducible assumption) | assumption)
              obtain ⟨ad612, e612, hx612_0⟩ := Kd.at_int (Kd.R_reads' HO_6.out).2.2 x10_2 p612 q612
              obtain rfl : ad610 = ad612 := (by injection e612)
              replace p612 := eq_true p612
              replace q612 := eq_true q612
              try go_wp2
              go_roundg kj21
              case measure => have := HJ2.out; have := HK2.out; have := HJ21.out; omega
              case rel => exact ⟨(rd t605 x10_2), (wrap64 (x10_2 + 1)), (by first | rfl | (simp; done) | (simp [*]; done)), (by first | rfl | (simp; done) | (simp [*]; done)), H', ⟨by have := HJ2.out; have := HK2.out; have := HJ21.out; omega⟩, ⟨by (with_reducible repeat (first | apply Kd.V_alloc | apply Kd.V_drewN | apply Kd.V_drew)); exact HO_1.out⟩, ⟨by (with_reducible repeat (first | apply Kd.N_alloc | apply Kd.N_drewN | apply Kd.N_drew)); exact HO_5.out⟩, ⟨by (with_reducible repeat (first | apply Kd.R_alloc | apply Kd.R_drewN | apply Kd.R_drew)); exact HO_6.out⟩, ⟨by (with_reducible repeat (first | refine bn ?_ _ | refine bd ?_ | refine ba ?_ _)); exact BK598.out⟩, ⟨by repeat (first | (with_reducible first | exact HB.out | apply bl | apply pN | apply b1 | refine bs ?_ GE598.out) | exact HB.out | exact HBo.out)⟩⟩
             ·
              rw [if_neg c31] at H
              exact absurd H (by simp)
            ·
             rw [if_neg c30] at H
             exact absurd H (by simp)
           ·
            rw [if_neg c29] at H
            exact absurd H (by simp)
          ·
           rw [if_neg c28] at H
           exact absurd H (by simp)
         ·
          replace c27 := Bool.eq_false_iff.mpr c27
          subst c27
          have H1 : (if (t602.length : Int) = (t605.length : Int) then ((shuttlecockref04_Bytes.f kj21 t602).bind fun t613 => (shuttlecocklaw05_BatchTimes.j3 kj21 l1 t602 t605 (t613.toList != a0_3.toList) a0_0 a0_1 a0_2 a0_3)) else (shuttlecocklaw05_BatchTimes.j3 kj21 l1 t602 t605 true a0_0 a0_1 a0_2 a0_3)) = some r := by rw [if_neg (show ¬ (false = true) by decide)] at H; exact H
          clear H
          have H := H1
          clear H1
          have HC35 := Am H
          clear H
          go_upto_region 13 with (fail)
          go_cut [94] (fun v94 wc => ∃ (kq : Nat) (x94_34 : Bool), v94 = .bool x94_34 ∧ Aside0 (shuttlecocklaw05_BatchTimes.j3 kq l1 t602 t605 x94_34 a0_0 a0_1 a0_2 a0_3 = some r) ∧ Aside0 (kq ≤ kj21) ∧ Aside0 (Kd.V k41 41 wc w.heap.size (fun k_ => (P1_ k_ ∨ w.heap.size ≤ k_) ∧ some k_ ≠ (v603 : Value).ownBlock ∧ some k_ ≠ (v606 : Value).ownBlock ∧ k_ ≠ gb598) (.slice A1 l1.length c1) l1) ∧ Aside0 (Kd.N k41 41 wc w.heap.size (fun k_ => (P1_ k_ ∨ w.heap.size ≤ k_) ∧ some k_ ≠ (v606 : Value).ownBlock ∧ k_ ≠ gb598) v603 t602) ∧ Aside0 (Kd.R (Kd.int .i64) 3 wc w.heap.size (fun k_ => (w.heap.size ≤ k_)) v606 t605) ∧ Aside0 (wc.heap[gb598]? = some (.cells #[.int .i64 a0_0, .int .i64 a0_1, .int .i64 a0_2, .string a0_3] 23 (0, 0))) ∧ Aside0 (Below w.heap.size w wc))
          case first =>
           have H := HC35.out
           clear HC35
           by_cases c36 : (t602.length : Int) = (t605.length : Int)
           ·
            rw [if_pos c36] at H
            have c36b0 : ((t602.length : Int) == (t605.length : Int)) = true := beq_iff_eq.mpr c36
            have c36b1 : ((t602.length : Int) != (t605.length : Int)) = false := bne_eq_false_iff_eq.mpr c36
            have c36b2 : (t602.length == t605.length) = true := by first | simpa using c36 | (simp at c36 ⊢; omega)
            clear c36
            (first | rw [c36b0] | (simp only [i64_w, i32_w]; rw [c36b0]) | skip)
            replace H := ob H
            obtain ⟨t613, A370, H⟩ := H
            replace H : (shuttlecocklaw05_BatchTimes.j3 kj21 l1 t602 t605 (t613.toList != a0_3.toList) a0_0 a0_1 a0_2 a0_3) = some r := H
            have A37 := Am A370
            clear A370
            have H' := Am H
            clear H
            try go_wp2
            have n0_ := Am (Kd.V_drew HO_1.out)
            have n1_ := Am (Kd.N_drew HO_5.out)
            have n2_ := Am (Kd.R_drew HO_6.out)
            have n3_ := Am (bd BK598.out)
            have n4_ := Am (b1 HB.out)
            clear HO_1
            clear HO_5
            clear HO_6
            clear BK598
            clear HB
            have HO_1 := n0_
            have HO_5 := n1_
            have HO_6 := n2_
            have BK598 := n3_
            have HB := n4_
            clear n0_ n1_ n2_ n3_ n4_
            obtain ⟨Ao39, co39, eo39⟩ := Kd.N_slice HO_5.out
            (first | subst eo39 | (injection eo39 with f1_ f2_ f3_; have f4_ := f1_.symm; have f5_ := f3_.symm; clear f1_ f2_ f3_; subst f4_; subst f5_))
            obtain ⟨Ao40, co40, eo40⟩ := Kd.R_slice HO_6.out
            (first | subst eo40 | (injection eo40 with f1_ f2_ f3_; have f4_ := f1_.symm; have f5_ := f3_.symm; clear f1_ f2_ f3_; subst f4_; subst f5_))
            refine start_ (n := 12) (S := fun w' => w'.cell? ⟨gb598, 0, none⟩ = some (.int .i64 a0_0) ∧ w'.cell? ⟨gb598, 1, none⟩ = some (.int .i64 a0_1) ∧ w'.cell? ⟨gb598, 2, none⟩ = some (.int .i64 a0_2) ∧ w'.cell? ⟨gb598, 3, none⟩ = some (.string a0_3)) (ds := []) q19_0 (by kernel_rfl) rfl rfl ⟨(bc BK598.out 0).trans rfl, (bc BK598.out 1).trans rfl, (bc BK598.out 2).trans rfl, (bc BK598.out 3).trans rfl⟩ (fun hHeld => ?_); refine with_tabW shuttlecocklaw05_BatchTimes.tab13 shuttlecocklaw05_BatchTimes.bits13 (fun HT_ HW_ => ?_)
            generalize wc.drew = w38 at HO_1 HO_5 HO_6 BK598 HB hHeld ⊢
            refine Own.pr_ 0 (some 83) q19_1 HT_ (h := ?_)
            refine Own.pr_ 1 (some 84) q19_2 HT_ (h := ?_)
            refine Own.pr_ 2 (some 85) q19_3 HT_ (h := ?_)
            refine Own.pr_ 3 (some 86) q19_13 HT_ (h := ?_)
            refine Own.pr_ 4 (some 87) q19_14 HT_ (h := ?_)
            refine Own.pr_ 5 (some 88) q19_15 HT_ (h := ?_)
            refine Own.pr_ 6 (some 89) q19_16 HT_ (h := ?_)
            refine Own.pr_ 8 (some 91) q19_17 HT_ (h := ?_)
            refine Own.tk_ 9 (some 92) q19_18 HT_ HW_ hHeld (hy := by rintro w' ⟨s0, s1, s2, s3⟩; go_simp; with_reducible rfl) (h := ?_)
            refine one_ (i := 7) (N := some 90) q19_10 rfl rfl (one_of HT_.out (by kernel_rfl)) (by decide) (fun K hK => ?_)
            refine goes_ Try.func20 (by kernel_rfl) rfl #[.slice Ao39 t602.length co39] (by rfl) rfl rfl (by (try simp only [List.map_toArray, List.map_cons, List.map_nil]); first | done | rfl | (simp only [List.length_drop, List.length_take]; rfl)) ?_
            with_reducible refine (shuttlecockref04_Bytes.calls kj21 _ _ t602 t613 _ ?side1 ?side2 A37.out).mono ?_
            (case side1 => repeat (first | exact (Kd.N_reads' HO_5.out).2.2 | (with_reducible refine Kd.C_alloc ?_ _) | (with_reducible refine Kd.C_drewN ?_ _) | (with_reducible refine Kd.C_drew ?_)))
            (case side2 => exact (Kd.N_reads' HO_5.out).2.1)
            rintro e w41 ⟨rfl, hb⟩
            refine ⟨_, rfl, ?_⟩
            have n0_ := Am (Kd.V_below (by (with_reducible repeat (first | apply Kd.V_alloc | apply Kd.V_drewN | apply Kd.V_drew)); exact HO_1.out) hb)
            have n1_ := Am (Kd.N_below (by (with_reducible repeat (first | apply Kd.N_alloc | apply Kd.N_drewN | apply Kd.N_drew)); exact HO_5.out) hb)
            have n2_ := Am (Kd.R_below (by (with_reducible repeat (first | apply Kd.R_alloc | apply Kd.R_drewN | apply Kd.R_drew)); exact HO_6.out) hb)
            have n3_ := Am (blk_below (g := gb598) (o := .cells #[.int .i64 a0_0, .int .i64 a0_1, .int .i64 a0_2, .string a0_3] 23 (0, 0)) (by (with_reducible repeat (first | refine bn ?_ _ | refine bd ?_ | refine ba ?_ _)); exact BK598.out) hb)
            have n4_ := Am (below_step (by repeat (first | (with_reducible first | exact HB.out | apply bl | apply pN | apply b1 | refine bs ?_ GE598.out) | exact HB.out | exact HBo.out)) hb)
            clear HO_1
            clear HO_5
            clear HO_6
            clear BK598
            clear HB
            have HO_1 := n0_
            have HO_5 := n1_
            have HO_6 := n2_
            have BK598 := n3_
            have HB := n4_
            clear n0_ n1_ n2_ n3_ n4_
            (try clear hb)
            (try clear hb2)
            (try clear hk)
            (try clear hi)
            refine hK.out _ _ ⟨(bc BK598.out 0).trans rfl, (bc BK598.out 1).trans rfl, (bc BK598.out 2).trans rfl, (bc BK598.out 3).trans rfl⟩ (fun hHeld => ?_)
            clear hK K
            refine norm_ (a' := ?_) ?_ ?_
            rotate_left
            ·
             show Act.put _ (some 90) _ = _
             simp only [Act.put, sI, sZ, sS, i64_w, i32_w]
             rfl
            refine Own.pr_ 10 (some 93) q19_11 HT_ (h := ?_)
            refine Own.pr_ 11 (some 94) q19_12 HT_ (h := ?_)
            refine done_ (done_of HT_.out (by kernel_rfl)) ?_
            try go_wp2
            go_meet
            case rel => exact ⟨_, ((t613.toList != a0_3.toList)), (by first | rfl | (simp; done) | (simp [*]; done)), H', ⟨by have := HJ2.out; have := HK2.out; have := HJ21.out; first | omega | exact Nat.le_refl _⟩, ⟨by (with_reducible repeat (first | apply Kd.V_alloc | apply Kd.V_drewN | apply Kd.V_drew)); exact HO_1.out⟩, ⟨by (with_reducible repeat (first | apply Kd.N_alloc | apply Kd.N_drewN | apply Kd.N_drew)); exact HO_5.out⟩, ⟨by (with_reducible repeat (first | apply Kd.R_alloc | apply Kd.R_drewN | apply Kd.R_drew)); exact HO_6.out⟩, ⟨by (with_reducible repeat (first | refine bn ?_ _ | refine bd ?_ | refine ba ?_ _)); exact BK598.out⟩, ⟨by repeat (first | (with_reducible first | exact HB.out | apply bl | apply pN | apply b1 | refine bs ?_ GE598.out) | exact HB.out | exact HBo.out)⟩⟩
           ·
            rw [if_neg c36] at H
            have c36b0 : ((t602.length : Int) == (t605.length : Int)) = false := beq_eq_false_iff_ne.mpr c36
            have c36b1 : ((t602.length : Int) != (t605.length : Int)) = true := bne_iff_ne.mpr c36
            have c36b2 : (t602.length == t605.length) = false := by first | simpa using c36 | (simp at c36 ⊢; omega)
            (first | rw [c36b0] | (simp only [i64_w, i32_w]; rw [c36b0]) | skip)
            have H' := Am H
            clear H
            try go_wp2
            have n0_ := Am (Kd.V_drew HO_1.out)
            have n1_ := Am (Kd.N_drew HO_5.out)
            have n2_ := Am (Kd.R_drew HO_6.out)
            have n3_ := Am (bd BK598.out)
            have n4_ := Am (b1 HB.out)
            clear HO_1
            clear HO_5
            clear HO_6
            clear BK598
            clear HB
            have HO_1 := n0_
            have HO_5 := n1_
            have HO_6 := n2_
            have BK598 := n3_
            have HB := n4_
            clear n0_ n1_ n2_ n3_ n4_
            obtain ⟨Ao43, co43, eo43⟩ := Kd.N_slice HO_5.out
            (first | subst eo43 | (injection eo43 with f1_ f2_ f3_; have f4_ := f1_.symm; have f5_ := f3_.symm; clear f1_ f2_ f3_; subst f4_; subst f5_))
            obtain ⟨Ao44, co44, eo44⟩ := Kd.R_slice HO_6.out
            (first | subst eo44 | (injection eo44 with f1_ f2_ f3_; have f4_ := f1_.symm; have f5_ := f3_.symm; clear f1_ f2_ f3_; subst f4_; subst f5_))
            refine start_ (n := 12) (S := fun w' => True) (ds := []) q19_0 (by kernel_rfl) rfl rfl trivial (fun hHeld => ?_); refine with_tabW shuttlecocklaw05_BatchTimes.tab13 shuttlecocklaw05_BatchTimes.bits13 (fun HT_ HW_ => ?_)
            generalize wc.drew = w42 at HO_1 HO_5 HO_6 BK598 HB hHeld ⊢
            refine Own.pr_ 0 (some 83) q19_1 HT_ (h := ?_)
            refine Own.pr_ 1 (some 84) q19_2 HT_ (h := ?_)
            refine Own.pr_ 2 (some 85) q19_3 HT_ (h := ?_)
            refine Own.pr_ 3 (some 86) q19_13 HT_ (h := ?_)
            refine Own.pr_ 4 (some 87) q19_14 HT_ (h := ?_)
            refine Own.pr_ 5 (some 88) q19_15 HT_ (h := ?_)
            refine Own.skips_ HT_.out [6, 7, 8, 9, 10] [some 89, some 90, some 91, some 92, some 93] 1 6 _ q19_11 _ ?_ _ rfl (by kernel_rfl) (fun _ _ _ _ h => h) (by kernel_rfl) ?_ ?_
            rotate_left
            ·
             simp only [Own.putU, Act.put, sI, sZ, sS]
             rfl
            refine Own.pr_ 11 (some 94) q19_12 HT_ (h := ?_)
            refine done_ (done_of HT_.out (by kernel_rfl)) ?_
            try go_wp2
            go_meet
            case rel => exact ⟨_, (true), (by first | rfl | (simp; done) | (simp [*]; done)), H', ⟨by have := HJ2.out; have := HK2.out; have := HJ21.out; first | omega | exact Nat.le_refl _⟩, ⟨by (with_reducible repeat (first | apply Kd.V_alloc | apply Kd.V_drewN | apply Kd.V_drew)); exact HO_1.out⟩, ⟨by (with_reducible repeat (first | apply Kd.N_alloc | apply Kd.N_drewN | apply Kd.N_drew)); exact HO_5.out⟩, ⟨by (with_reducible repeat (first | apply Kd.R_alloc | apply Kd.R_drewN | apply Kd.R_drew)); exact HO_6.out⟩, ⟨by (with_reducible repeat (first | refine bn ?_ _ | refine bd ?_ | refine ba ?_ _)); exact BK598.out⟩, ⟨by repeat (first | (with_reducible first | exact HB.out | apply bl | apply pN | apply b1 | refine bs ?_ GE598.out) | exact HB.out | exact HBo.out)⟩⟩
          case rest =>
           clear HC35
           try clear c1
           try clear c2
           try clear p2
           try clear c3
           try clear c5
           try clear c6
           try clear p6
           try clear q6
           try clear hx6
           try clear c7
           try clear c7b0
           try clear c7b1
           try clear c8
           try clear c11
           try clear c14
           try clear c18
           try clear c18b0
           try clear c18b1
           try clear c20
           try clear c23
           try clear c23b0
           try clear c27
           try clear c28
           try clear c28b0
           try clear c29
           try clear c29b0
           try clear c30
           try clear c30b0
           try clear c31
           try clear c31b0
           try clear c31b1
           try clear c36
           try clear c36b0
           try clear c36b1
           try clear c36b2
           try clear hcz12_0
           try clear hcz12_1
           try clear hcz12_2
           try clear hcz12_3
           try clear hcz19_0
           try clear hcz19_1
           try clear hcz19_2
           try clear hcz19_3
           try clear hcz21_0
           try clear hcz21_1
           try clear hcz21_2
           try clear hcz21_3
           try clear hcz9_0
           try clear hcz9_1
           try clear hcz9_2
           try clear hcz9_3
           try clear hfz12_0
           try clear hfz12_1
           try clear hfz12_2
           try clear hfz12_3
           try clear hfz19_0
           try clear hfz19_1
           try clear hfz19_2
           try clear hfz19_3
           try clear hfz21_0
           try clear hfz21_1
           try clear hfz21_2
           try clear hfz21_3
           try clear hfz9_0
           try clear hfz9_1
           try clear hfz9_2
           try clear hfz9_3
           try clear hx610_0
           try clear hx611_0
           try clear hx611_1
           try clear hx611_2
           try clear hx611_3
           try clear hx612_0
           try clear p2
           try clear p6
           try clear p610
           try clear p611
           try clear p612
           try clear q610
           try clear q611
           try clear q612
           obtain ⟨kq, x94_34, rfl, HA, HJ34, HO_1, HO_5, HO_6, BK598, HB⟩ := hcut
           cases kq with
           | zero => exact absurd HA.out (by simp [shuttlecocklaw05_BatchTimes.j3])
           | succ kj34 =>
            have H := HA.out
            clear HA
            simp only [shuttlecocklaw05_BatchTimes.j3] at H
            by_cases c45 : x94_34 = true
            ·
             subst c45
             have H1 : (none) = some r := by rw [if_pos rfl] at H; exact H
             clear H
             have H := H1
             clear H1
             exact absurd H (by simp)
            ·
             replace c45 := Bool.eq_false_iff.mpr c45
             subst c45
             have H1 : (shuttlecocklaw05_BatchTimes.l1 kj34 l1 t602 t605 0 a0_0 a0_1 a0_2 a0_3) = some r := by rw [if_neg (show ¬ (false = true) by decide)] at H; exact H
             clear H
             have H := H1
             clear H1
             have H' := Am H
             clear H
             go_wp2
             go_loopg [11] kj34 (fun kq v11 w' => ∃ (x11_5 : Int), v11 = .int .i64 x11_5 ∧ Aside0 (shuttlecocklaw05_BatchTimes.l1 kq l1 t602 t605 x11_5 a0_0 a0_1 a0_2 a0_3 = some r) ∧ Aside0 (kq ≤ kj34) ∧ Aside0 (Kd.V k41 41 w' w.heap.size (fun k_ => (P1_ k_ ∨ w.heap.size ≤ k_) ∧ some k_ ≠ (v603 : Value).ownBlock ∧ some k_ ≠ (v606 : Value).ownBlock ∧ k_ ≠ gb598) (.slice A1 l1.length c1) l1) ∧ Aside0 (Kd.N k41 41 w' w.heap.size (fun k_ => (P1_ k_ ∨ w.heap.size ≤ k_) ∧ some k_ ≠ (v606 : Value).ownBlock ∧ k_ ≠ gb598) v603 t602) ∧ Aside0 (Kd.R (Kd.int .i64) 3 w' w.heap.size (fun k_ => (w.heap.size ≤ k_)) v606 t605) ∧ Aside0 (w'.heap[gb598]? = some (.cells #[.int .i64 a0_0, .int .i64 a0_1, .int .i64 a0_2, .string a0_3] 23 (0, 0))) ∧ Aside0 (Below w.heap.size w w'))
             case atStart => exact ⟨(0), (by first | rfl | (simp; done) | (simp [*]; done)), H', ⟨Nat.le_refl _⟩, ⟨by (with_reducible repeat (first | apply Kd.V_alloc | apply Kd.V_drewN | apply Kd.V_drew)); exact HO_1.out⟩, ⟨by (with_reducible repeat (first | apply Kd.N_alloc | apply Kd.N_drewN | apply Kd.N_drew)); exact HO_5.out⟩, ⟨by (with_reducible repeat (first | apply Kd.R_alloc | apply Kd.R_drewN | apply Kd.R_drew)); exact HO_6.out⟩, ⟨by (with_reducible repeat (first | refine bn ?_ _ | refine bd ?_ | refine ba ?_ _)); exact BK598.out⟩, ⟨by repeat (first | (with_reducible first | exact HB.out | apply bl | apply pN | apply b1 | refine bs ?_ GE598.out) | exact HB.out | exact HBo.out)⟩⟩
             case round =>
              clear H'
              try clear c1
              try clear c2
              try clear p2
              try clear c3
              try clear c4
              try clear c5
              try clear c6
              try clear p6
              try clear q6
              try clear hx6
              try clear c7
              try clear c7b0
              try clear c7b1
              try clear c8
              try clear c11
              try clear c14
              try clear c18
              try clear c18b0
              try clear c18b1
              try clear c20
              try clear c23
              try clear c23b0
              try clear c27
              try clear c28
              try clear c28b0
              try clear c29
              try clear c29b0
              try clear c30
              try clear c30b0
              try clear c31
              try clear c31b0
              try clear c31b1
              try clear c36
              try clear c36b0
              try clear c36b1
              try clear c36b2
              try clear c45
              try clear hcz12_0
              try clear hcz12_1
              try clear hcz12_2
              try clear hcz12_3
              try clear hcz19_0
              try clear hcz19_1
              try clear hcz19_2
              try clear hcz19_3
              try clear hcz21_0
              try clear hcz21_1
              try clear hcz21_2
              try clear hcz21_3
              try clear hcz9_0
              try clear hcz9_1
              try clear hcz9_2
              try clear hcz9_3
              try clear hfz12_0
              try clear hfz12_1
              try clear hfz12_2
              try clear hfz12_3
              try clear hfz19_0
              try clear hfz19_1
              try clear hfz19_2
              try clear hfz19_3
              try clear hfz21_0
              try clear hfz21_1
              try clear hfz21_2
              try clear hfz21_3
              try clear hfz9_0
              try clear hfz9_1
              try clear hfz9_2
              try clear hfz9_3
              try clear hx610_0
              try clear hx611_0
              try clear hx611_1
              try clear hx611_2
              try clear hx611_3
              try clear hx612_0
              try clear p2
              try clear p6
              try clear p610
              try clear p611
              try clear p612
              try clear q6
              try clear q610
              try clear q611
              try clear q612
              obtain ⟨x11_5, rfl, HA, HK5, HO_1, HO_5, HO_6, BK598, HB⟩ := hrel
              cases gk with
              | zero => exact absurd HA.out (by simp [shuttlecocklaw05_BatchTimes.l1])
              | succ k5 =>
               have H := HA.out
               clear HA
               simp only [shuttlecocklaw05_BatchTimes.l1] at H
               by_cases c46 : x11_5 < (l1.length : Int)
               ·
                rw [if_pos c46] at H
                have c46b0 : decide (x11_5 < (l1.length : Int)) = true := decide_eq_true c46
                clear c46
                by_cases c47 : 0 ≤ x11_5
                ·
                 rw [if_pos c47] at H
                 have c47b0 : decide (0 ≤ x11_5) = true := decide_eq_true c47
                 clear c47
                 replace H := ob H
                 obtain ⟨t615, A480, H⟩ := H
                 replace H : (if t615 = true then (if ((rd_T41 l1 x11_5).f1) > 1000000 then (some true) else (shuttlecocklaw05_BatchTimes.l1 k5 l1 t602 t605 (wrap64 (x11_5 + 1)) a0_0 a0_1 a0_2 a0_3)) else (some true)) = some r := H
                 have A48 := Am A480
                 clear A480
                 by_cases c49 : t615 = true
                 ·
                  subst c49
                  have H1 : (if ((rd_T41 l1 x11_5).f1) > 1000000 then (some true) else (shuttlecocklaw05_BatchTimes.l1 k5 l1 t602 t605 (wrap64 (x11_5 + 1)) a0_0 a0_1 a0_2 a0_3)) = some r := by rw [if_pos rfl] at H; exact H
                  clear H
                  have H := H1
                  clear H1
                  by_cases c50 : ((rd_T41 l1 x11_5).f1) > 1000000
                  ·
                   rw [if_pos c50] at H
                   have c50b0 : decide (1000000 < ((rd_T41 l1 x11_5).f1)) = true := decide_eq_true c50
                   clear c50
                   obtain rfl := Option.some.inj H
                   have p614 : 0 ≤ (x11_5 : Int) := of_decide_eq_true (by first | (with_reducible assumption) | assumption)
                   have q614 : x11_5 < (l1.length : Int) := of_decide_eq_true (by first | (with_reducible assumption) | assumption)
                   obtain ⟨ad614, A614_2, c614_2, e614, hx614_0, hx614_1, hx614_2, hx614_3, hl614_2, hi614_2⟩ := at_T41 (Kd.V_reads' HO_1.out).2.2 x11_5 p614 q614
                   cases e614
                   obtain ⟨ce614, hce614, hMe614, hcc614⟩ := Kd.V_get HO_1.out z41 x11_5 p614 (by first | exact q614 | exact of_decide_eq_true (by first | (with_reducible assumption) | assumption) | (have e_ := (Kd.V_reads' HO_1.out).1; omega))
                   obtain ⟨ua614_2, uc614_2, rfl, ul614_2, ge614_2⟩ := k41_openF hMe614
                   have hv614_2 := hcc614 2 _ rfl
                   rw [add_field _ _ 2 (by omega)] at hv614_2
                   replace hv614_2 := Option.some.inj (hv614_2.symm.trans hx614_2)
                   injection hv614_2 with hva_ hvn_ hvc_
                   rw [hva_] at ge614_2
                   rw [hvc_] at ul614_2
                   have HL614_2 := Am (show Kd.V (Kd.int .i64) 3 _ w.heap.size _ _ ((rd_T41 l1 x11_5).f2) from Kd.V_mk ul614_2 ge614_2)
                   clear hva_ hvn_ hvc_ ge614_2 ul614_2
                   clear hcc614 hce614
                   have HR614_2 := Am hi614_2
                   have HC614_2 := Am hl614_2
                   clear hi614_2 hl614_2
                   replace p614 := eq_true p614
                   replace q614 := eq_true q614
                   go_wp2_with (first | ((with_reducible refine gate_callee (f := 21) rfl ?_); refine goesL_ (some 105) rfl rfl Try.func21 (by kernel_rfl) rfl #[.agg #[.int .i64 ((rd_T41 l1 x11_5).f0), .int .i64 ((rd_T41 l1 x11_5).f1), .slice A614_2 ((rd_T41 l1 x11_5).f2).length c614_2, .string ((rd_T41 l1 x11_5).f3)]] rfl (by (try simp only [List.map_toArray, List.map_cons, List.map_nil]); first | done | rfl | (simp only [List.length_drop, List.length_take]; rfl)) ?_; (with_reducible refine (shuttlecockref04_May.calls k5 ((rd_T41 l1 x11_5).f0) ((rd_T41 l1 x11_5).f1) _ _ ((rd_T41 l1 x11_5).f2) ((rd_T41 l1 x11_5).f3) true _ ?side1 ?side2 A48.out).mono ?_); (case side1 => repeat (first | exact (by repeat (first | (with_reducible exact HR614_2.out) | (with_reducible refine Kd.C_alloc ?_ _) | (with_reducible refine Kd.C_drewN ?_ _) | (with_reducible refine Kd.C_drew ?_) | exact HR614_2.out)) | (with_reducible refine Kd.C_alloc ?_ _) | (with_reducible refine Kd.C_drewN ?_ _) | (with_reducible refine Kd.C_drew ?_))); (case side2 => exact HC614_2.out); rintro e w51 ⟨rfl, hb⟩; refine ⟨_, rfl, ?_⟩; have n0_ := Am (Kd.V_below (by (with_reducible repeat (first | apply Kd.V_alloc | apply Kd.V_drewN | apply Kd.V_drew)); exact HO_1.out) hb); have n1_ := Am (Kd.N_below (by (with_reducible repeat (first | apply Kd.N_alloc | apply Kd.N_drewN | apply Kd.N_drew)); exact HO_5.out) hb); have n2_ := Am (Kd.R_below (by (with_reducible repeat (first | apply Kd.R_alloc | apply Kd.R_drewN | apply Kd.R_drew)); exact HO_6.out) hb); have n3_ := Am (Kd.V_below (by (with_reducible repeat (first | apply Kd.V_alloc | apply Kd.V_drewN | apply Kd.V_drew)); exact HL614_2.out) hb); have n4_ := Am (blk_below (g := gb598) (o := .cells #[.int .i64 a0_0, .int .i64 a0_1, .int .i64 a0_2, .string a0_3] 23 (0, 0)) (by (with_reducible repeat (first | refine bn ?_ _ | refine bd ?_ | refine ba ?_ _)); exact BK598.out) hb); have n5_ := Am (Kd.C_below (by repeat (first | (with_reducible exact HR614_2.out) | (with_reducible refine Kd.C_alloc ?_ _) | (with_reducible refine Kd.C_drewN ?_ _) | (with_reducible refine Kd.C_drew ?_) | exact HR614_2.out)) hb); have n6_ := Am (below_step (by repeat (first | (with_reducible first | exact HB.out | apply bl | apply pN | apply b1 | refine bs ?_ GE598.out) | exact HB.out | exact HBo.out)) hb); clear HO_1; clear HO_5; clear HO_6; clear HL614_2; clear BK598; clear HR614_2; clear HB; have HO_1 := n0_; have HO_5 := n1_; have HO_6 := n2_; have HL614_2 := n3_; have BK598 := n4_; have HR614_2 := n5_; have HB := n6_; clear n0_ n1_ n2_ n3_ n4_ n5_ n6_; (try clear hb); (try clear hb2); (try clear hk); (try clear hi); have p616 : 0 ≤ (x11_5 : Int) := of_decide_eq_true (by first | (with_reducible assumption) | assumption); have q616 : x11_5 < (l1.length : Int) := of_decide_eq_true (by first | (with_reducible assumption) | assumption); obtain ⟨ad616, A616_2, c616_2, e616, hx616_0, hx616_1, hx616_2, hx616_3, hl616_2, hi616_2⟩ := at_T41 (Kd.V_reads' HO_1.out).2.2 x11_5 p616 q616; obtain rfl : ad614 = ad616 := (by injection e616); obtain ⟨ce616, hce616, hMe616, hcc616⟩ := Kd.V_get HO_1.out z41 x11_5 p616 (by first | exact q616 | exact of_decide_eq_true (by first | (with_reducible assumption) | assumption) | (have e_ := (Kd.V_reads' HO_1.out).1; omega)); obtain ⟨ua616_2, uc616_2, rfl, ul616_2, ge616_2⟩ := k41_openF hMe616; have hv616_2 := hcc616 2 _ rfl; rw [add_field _ _ 2 (by omega)] at hv616_2; replace hv616_2 := Option.some.inj (hv616_2.symm.trans hx616_2); injection hv616_2 with hva_ hvn_ hvc_; rw [hva_] at ge616_2; rw [hvc_] at ul616_2; have HL616_2 := Am (show Kd.V (Kd.int .i64) 3 _ w.heap.size _ _ ((rd_T41 l1 x11_5).f2) from Kd.V_mk ul616_2 ge616_2); clear hva_ hvn_ hvc_ ge616_2 ul616_2; clear hcc616 hce616; have HR616_2 := Am hi616_2; have HC616_2 := Am hl616_2; clear hi616_2 hl616_2; replace p616 := eq_true p616; replace q616 := eq_true q616))
                   go_ret
                   exact ⟨by first | rfl | (simp [errW_none, errW_some] <;> rfl) | (simp [*, errW_none, errW_some] <;> rfl) | (simp [Aid.ne_nil, Aid.eq_nil, errW_none, errW_some]; done), by repeat (first | (with_reducible first | exact HB.out | apply bl | apply pN | apply b1 | refine bs ?_ GE598.out) | exact HB.out | exact HBo.out)⟩
                  ·
                   rw [if_neg c50] at H
                   have c50b0 : decide (1000000 < ((rd_T41 l1 x11_5).f1)) = false := decide_eq_false c50
                   clear c50
                   have H' := Am H
                   clear H
                   have p614 : 0 ≤ (x11_5 : Int) := of_decide_eq_true (by first | (with_reducible assumption) | assumption)
                   have q614 : x11_5 < (l1.length : Int) := of_decide_eq_true (by first | (with_reducible assumption) | assumption)
                   obtain ⟨ad614, A614_2, c614_2, e614, hx614_0, hx614_1, hx614_2, hx614_3, hl614_2, hi614_2⟩ := at_T41 (Kd.V_reads' HO_1.out).2.2 x11_5 p614 q614
                   cases e614
                   obtain ⟨ce614, hce614, hMe614, hcc614⟩ := Kd.V_get HO_1.out z41 x11_5 p614 (by first | exact q614 | exact of_decide_eq_true (by first | (with_reducible assumption) | assumption) | (have e_ := (Kd.V_reads' HO_1.out).1; omega))
                   obtain ⟨ua614_2, uc614_2, rfl, ul614_2, ge614_2⟩ := k41_openF hMe614
                   have hv614_2 := hcc614 2 _ rfl
                   rw [add_field _ _ 2 (by omega)] at hv614_2
                   replace hv614_2 := Option.some.inj (hv614_2.symm.trans hx614_2)
                   injection hv614_2 with hva_ hvn_ hvc_
                   rw [hva_] at ge614_2
                   rw [hvc_] at ul614_2
                   have HL614_2 := Am (show Kd.V (Kd.int .i64) 3 _ w.heap.size _ _ ((rd_T41 l1 x11_5).f2) from Kd.V_mk ul614_2 ge614_2)
                   clear hva_ hvn_ hvc_ ge614_2 ul614_2
                   clear hcc614 hce614
                   have HR614_2 := Am hi614_2
                   have HC614_2 := Am hl614_2
                   clear hi614_2 hl614_2
                   replace p614 := eq_true p614
                   replace q614 := eq_true q614
                   go_wp2_with (first | ((with_reducible refine gate_callee (f := 21) rfl ?_); refine goesL_ (some 105) rfl rfl Try.func21 (by kernel_rfl) rfl #[.agg #[.int .i64 ((rd_T41 l1 x11_5).f0), .int .i64 ((rd_T41 l1 x11_5).f1), .slice A614_2 ((rd_T41 l1 x11_5).f2).length c614_2, .string ((rd_T41 l1 x11_5).f3)]] rfl (by (try simp only [List.map_toArray, List.map_cons, List.map_nil]); first | done | rfl | (simp only [List.length_drop, List.length_take]; rfl)) ?_; (with_reducible refine (shuttlecockref04_May.calls k5 ((rd_T41 l1 x11_5).f0) ((rd_T41 l1 x11_5).f1) _ _ ((rd_T41 l1 x11_5).f2) ((rd_T41 l1 x11_5).f3) true _ ?side1 ?side2 A48.out).mono ?_); (case side1 => repeat (first | exact (by repeat (first | (with_reducible exact HR614_2.out) | (with_reducible refine Kd.C_alloc ?_ _) | (with_reducible refine Kd.C_drewN ?_ _) | (with_reducible refine Kd.C_drew ?_) | exact HR614_2.out)) | (with_reducible refine Kd.C_alloc ?_ _) | (with_reducible refine Kd.C_drewN ?_ _) | (with_reducible refine Kd.C_drew ?_))); (case side2 => exact HC614_2.out); rintro e w52 ⟨rfl, hb⟩; refine ⟨_, rfl, ?_⟩; have n0_ := Am (Kd.V_below (by (with_reducible repeat (first | apply Kd.V_alloc | apply Kd.V_drewN | apply Kd.V_drew)); exact HO_1.out) hb); have n1_ := Am (Kd.N_below (by (with_reducible repeat (first | apply Kd.N_alloc | apply Kd.N_drewN | apply Kd.N_drew)); exact HO_5.out) hb); have n2_ := Am (Kd.R_below (by (with_reducible repeat (first | apply Kd.R_alloc | apply Kd.R_drewN | apply Kd.R_drew)); exact HO_6.out) hb); have n3_ := Am (Kd.V_below (by (with_reducible repeat (first | apply Kd.V_alloc | apply Kd.V_drewN | apply Kd.V_drew)); exact HL614_2.out) hb); have n4_ := Am (blk_below (g := gb598) (o := .cells #[.int .i64 a0_0, .int .i64 a0_1, .int .i64 a0_2, .string a0_3] 23 (0, 0)) (by (with_reducible repeat (first | refine bn ?_ _ | refine bd ?_ | refine ba ?_ _)); exact BK598.out) hb); have n5_ := Am (Kd.C_below (by repeat (first | (with_reducible exact HR614_2.out) | (with_reducible refine Kd.C_alloc ?_ _) | (with_reducible refine Kd.C_drewN ?_ _) | (with_reducible refine Kd.C_drew ?_) | exact HR614_2.out)) hb); have n6_ := Am (below_step (by repeat (first | (with_reducible first | exact HB.out | apply bl | apply pN | apply b1 | refine bs ?_ GE598.out) | exact HB.out | exact HBo.out)) hb); clear HO_1; clear HO_5; clear HO_6; clear HL614_2; clear BK598; clear HR614_2; clear HB; have HO_1 := n0_; have HO_5 := n1_; have HO_6 := n2_; have HL614_2 := n3_; have BK598 := n4_; have HR614_2 := n5_; have HB := n6_; clear n0_ n1_ n2_ n3_ n4_ n5_ n6_; (try clear hb); (try clear hb2); (try clear hk); (try clear hi); have p616 : 0 ≤ (x11_5 : Int) := of_decide_eq_true (by first | (with_reducible assumption) | assumption); have q616 : x11_5 < (l1.length : Int) := of_decide_eq_true (by first | (with_reducible assumption) | assumption); obtain ⟨ad616, A616_2, c616_2, e616, hx616_0, hx616_1, hx616_2, hx616_3, hl616_2, hi616_2⟩ := at_T41 (Kd.V_reads' HO_1.out).2.2 x11_5 p616 q616; obtain rfl : ad614 = ad616 := (by injection e616); obtain ⟨ce616, hce616, hMe616, hcc616⟩ := Kd.V_get HO_1.out z41 x11_5 p616 (by first | exact q616 | exact of_decide_eq_true (by first | (with_reducible assumption) | assumption) | (have e_ := (Kd.V_reads' HO_1.out).1; omega)); obtain ⟨ua616_2, uc616_2, rfl, ul616_2, ge616_2⟩ := k41_openF hMe616; have hv616_2 := hcc616 2 _ rfl; rw [add_field _ _ 2 (by omega)] at hv616_2; replace hv616_2 := Option.some.inj (hv616_2.symm.trans hx616_2); injection hv616_2 with hva_ hvn_ hvc_; rw [hva_] at ge616_2; rw [hvc_] at ul616_2; have HL616_2 := Am (show Kd.V (Kd.int .i64) 3 _ w.heap.size _ _ ((rd_T41 l1 x11_5).f2) from Kd.V_mk ul616_2 ge616_2); clear hva_ hvn_ hvc_ ge616_2 ul616_2; clear hcc616 hce616; have HR616_2 := Am hi616_2; have HC616_2 := Am hl616_2; clear hi616_2 hl616_2; replace p616 := eq_true p616; replace q616 := eq_true q616))
                   go_roundg k5
                   case measure => have := HJ2.out; have := HK2.out; have := HJ21.out; have := HJ34.out; have := HK5.out; omega
                   case rel => exact ⟨(wrap64 (x11_5 + 1)), (by first | rfl | (simp; done) | (simp [*]; done)), H', ⟨by have := HJ2.out; have := HK2.out; have := HJ21.out; have := HJ34.out; have := HK5.out; omega⟩, ⟨by (with_reducible repeat (first | apply Kd.V_alloc | apply Kd.V_drewN | apply Kd.V_drew)); exact HO_1.out⟩, ⟨by (with_reducible repeat (first | apply Kd.N_alloc | apply Kd.N_drewN | apply Kd.N_drew)); exact HO_5.out⟩, ⟨by (with_reducible repeat (first | apply Kd.R_alloc | apply Kd.R_drewN | apply Kd.R_drew)); exact HO_6.out⟩, ⟨by (with_reducible repeat (first | refine bn ?_ _ | refine bd ?_ | refine ba ?_ _)); exact BK598.out⟩, ⟨by repeat (first | (with_reducible first | exact HB.out | apply bl | apply pN | apply b1 | refine bs ?_ GE598.out) | exact HB.out | exact HBo.out)⟩⟩
                 ·
                  replace c49 := Bool.eq_false_iff.mpr c49
                  subst c49
                  have H1 : (some true) = some r := by rw [if_neg (show ¬ (false = true) by decide)] at H; exact H
                  clear H
                  have H := H1
                  clear H1
                  obtain rfl := Option.some.inj H
                  have p614 : 0 ≤ (x11_5 : Int) := of_decide_eq_true (by first | (with_reducible assumption) | assumption)
                  have q614 : x11_5 < (l1.length : Int) := of_decide_eq_true (by first | (with_reducible assumption) | assumption)
                  obtain ⟨ad614, A614_2, c614_2, e614, hx614_0, hx614_1, hx614_2, hx614_3, hl614_2, hi614_2⟩ := at_T41 (Kd.V_reads' HO_1.out).2.2 x11_5 p614 q614
                  cases e614
                  obtain ⟨ce614, hce614, hMe614, hcc614⟩ := Kd.V_get HO_1.out z41 x11_5 p614 (by first | exact q614 | exact of_decide_eq_true (by first | (with_reducible assumption) | assumption) | (have e_ := (Kd.V_reads' HO_1.out).1; omega))
                  obtain ⟨ua614_2, uc614_2, rfl, ul614_2, ge614_2⟩ := k41_openF hMe614
                  have hv614_2 := hcc614 2 _ rfl
                  rw [add_field _ _ 2 (by omega)] at hv614_2
                  replace hv614_2 := Option.some.inj (hv614_2.symm.trans hx614_2)
                  injection hv614_2 with hva_ hvn_ hvc_
                  rw [hva_] at ge614_2
                  rw [hvc_] at ul614_2
                  have HL614_2 := Am (show Kd.V (Kd.int .i64) 3 _ w.heap.size _ _ ((rd_T41 l1 x11_5).f2) from Kd.V_mk ul614_2 ge614_2)
                  clear hva_ hvn_ hvc_ ge614_2 ul614_2
                  clear hcc614 hce614
                  have HR614_2 := Am hi614_2
                  have HC614_2 := Am hl614_2
                  clear hi614_2 hl614_2
                  replace p614 := eq_true p614
                  replace q614 := eq_true q614
                  go_wp2_with (first | ((with_reducible refine gate_callee (f := 21) rfl ?_); refine goesL_ (some 105) rfl rfl Try.func21 (by kernel_rfl) rfl #[.agg #[.int .i64 ((rd_T41 l1 x11_5).f0), .int .i64 ((rd_T41 l1 x11_5).f1), .slice A614_2 ((rd_T41 l1 x11_5).f2).length c614_2, .string ((rd_T41 l1 x11_5).f3)]] rfl (by (try simp only [List.map_toArray, List.map_cons, List.map_nil]); first | done | rfl | (simp only [List.length_drop, List.length_take]; rfl)) ?_; (with_reducible refine (shuttlecockref04_May.calls k5 ((rd_T41 l1 x11_5).f0) ((rd_T41 l1 x11_5).f1) _ _ ((rd_T41 l1 x11_5).f2) ((rd_T41 l1 x11_5).f3) false _ ?side1 ?side2 A48.out).mono ?_); (case side1 => repeat (first | exact (by repeat (first | (with_reducible exact HR614_2.out) | (with_reducible refine Kd.C_alloc ?_ _) | (with_reducible refine Kd.C_drewN ?_ _) | (with_reducible refine Kd.C_drew ?_) | exact HR614_2.out)) | (with_reducible refine Kd.C_alloc ?_ _) | (with_reducible refine Kd.C_drewN ?_ _) | (with_reducible refine Kd.C_drew ?_))); (case side2 => exact HC614_2.out); rintro e w53 ⟨rfl, hb⟩; refine ⟨_, rfl, ?_⟩; have n0_ := Am (Kd.V_below (by (with_reducible repeat (first | apply Kd.V_alloc | apply Kd.V_drewN | apply Kd.V_drew)); exact HO_1.out) hb); have n1_ := Am (Kd.N_below (by (with_reducible repeat (first | apply Kd.N_alloc | apply Kd.N_drewN | apply Kd.N_drew)); exact HO_5.out) hb); have n2_ := Am (Kd.R_below (by (with_reducible repeat (first | apply Kd.R_alloc | apply Kd.R_drewN | apply Kd.R_drew)); exact HO_6.out) hb); have n3_ := Am (Kd.V_below (by (with_reducible repeat (first | apply Kd.V_alloc | apply Kd.V_drewN | apply Kd.V_drew)); exact HL614_2.out) hb); have n4_ := Am (blk_below (g := gb598) (o := .cells #[.int .i64 a0_0, .int .i64 a0_1, .int .i64 a0_2, .string a0_3] 23 (0, 0)) (by (with_reducible repeat (first | refine bn ?_ _ | refine bd ?_ | refine ba ?_ _)); exact BK598.out) hb); have n5_ := Am (Kd.C_below (by repeat (first | (with_reducible exact HR614_2.out) | (with_reducible refine Kd.C_alloc ?_ _) | (with_reducible refine Kd.C_drewN ?_ _) | (with_reducible refine Kd.C_drew ?_) | exact HR614_2.out)) hb); have n6_ := Am (below_step (by repeat (first | (with_reducible first | exact HB.out | apply bl | apply pN | apply b1 | refine bs ?_ GE598.out) | exact HB.out | exact HBo.out)) hb); clear HO_1; clear HO_5; clear HO_6; clear HL614_2; clear BK598; clear HR614_2; clear HB; have HO_1 := n0_; have HO_5 := n1_; have HO_6 := n2_; have HL614_2 := n3_; have BK598 := n4_; have HR614_2 := n5_; have HB := n6_; clear n0_ n1_ n2_ n3_ n4_ n5_ n6_; (try clear hb); (try clear hb2); (try clear hk); (try clear hi)))
                  go_ret
                  exact ⟨by first | rfl | (simp [errW_none, errW_some] <;> rfl) | (simp [*, errW_none, errW_some] <;> rfl) | (simp [Aid.ne_nil, Aid.eq_nil, errW_none, errW_some]; done), by repeat (first | (with_reducible first | exact HB.out | apply bl | apply pN | apply b1 | refine bs ?_ GE598.out) | exact HB.out | exact HBo.out)⟩
                ·
                 rw [if_neg c47] at H
                 exact absurd H (by simp)
               ·
                rw [if_neg c46] at H
                have c46b0 : decide (x11_5 < (l1.length : Int)) = false := decide_eq_false c46
                clear c46
                replace H := ob H
                obtain ⟨t618, A540, H⟩ := H
                replace H : (if a0_3.size + t618.size ≤ 9223372036854775807 then ((batch_Events.f k5 a0_0 a0_1 a0_2 (a0_3 ++ t618)).bind fun bt619 => (if bt619.2.2.2 = 0 then (if (bt619.2.1.length : Int) = (wrap64 ((t605.length : Int) + (l1.length : Int))) then ((some (([] : List (S41)) : List (S41))).bind fun y627 => (if y627.length + t602.length < 2513169434916 then ((some (y627 ++ t602 : List (S41))).bind fun y630 => (if y630.length + l1.length < 2513169434916 then ((shuttlecockref04_All.f k5 bt619.1 (y630 ++ l1)).bind fun t636 => (if t636 = true then (if 0 ≤ (t605.length : Int) then (if (t605.length : Int) ≤ (bt619.2.1.length : Int) then ((shuttlecockref01_Ints.f k5 (bt619.2.1.take ((t605.length : Int) : Int).toNat) t605).bind fun t642 => (some t642)) else (none)) else (none)) else (none))) else (none))) else (none))) else (none)) else (if bt619.2.2.2 = 11 then (some true) else ((batch_May.f a0_0 a0_1 a0_2 (a0_3 ++ t618)).bind fun t643 => (some (!t643)))))) else (none)) = some r := H
                have A54 := Am A540
                clear A540
                by_cases c55 : a0_3.size + t618.size ≤ 9223372036854775807
                ·
                 rw [if_pos c55] at H
                 have c55b0 := eq_true c55
                 have c55b1 : decide (a0_3.size + t618.size ≤ 9223372036854775807) = true := decide_eq_true c55
                 try have c55b2 : (9223372036854775807 < a0_3.size + t618.size) = False := eq_false (Nat.not_lt.2 c55)
                 replace H := ob H
                 obtain ⟨⟨t619, t622, t625, t626⟩, A560, H⟩ := H
                 replace H : (if t626 = 0 then (if (t622.length : Int) = (wrap64 ((t605.length : Int) + (l1.length : Int))) then ((some (([] : List (S41)) : List (S41))).bind fun y627 => (if y627.length + t602.length < 2513169434916 then ((some (y627 ++ t602 : List (S41))).bind fun y630 => (if y630.length + l1.length < 2513169434916 then ((shuttlecockref04_All.f k5 t619 (y630 ++ l1)).bind fun t636 => (if t636 = true then (if 0 ≤ (t605.length : Int) then (if (t605.length : Int) ≤ (t622.length : Int) then ((shuttlecockref01_Ints.f k5 (t622.take ((t605.length : Int) : Int).toNat) t605).bind fun t642 => (some t642)) else (none)) else (none)) else (none))) else (none))) else (none))) else (none)) else (if t626 = 11 then (some true) else ((batch_May.f a0_0 a0_1 a0_2 (a0_3 ++ t618)).bind fun t643 => (some (!t643))))) = some r := H
                 have A56 := Am A560
                 clear A560
                 by_cases c57 : t626 = 0
                 ·
                  rw [if_pos c57] at H
                  have c57b0 : (t626 == 0) = true := beq_iff_eq.mpr c57
                  have c57b1 : (t626 != 0) = false := bne_eq_false_iff_eq.mpr c57
                  clear c57
                  by_cases c58 : (t622.length : Int) = (wrap64 ((t605.length : Int) + (l1.length : Int)))
                  ·
                   rw [if_pos c58] at H
                   have c58b0 : ((t622.length : Int) == (wrap64 ((t605.length : Int) + (l1.length : Int)))) = true := beq_iff_eq.mpr c58
                   have c58b1 : ((t622.length : Int) != (wrap64 ((t605.length : Int) + (l1.length : Int)))) = false := bne_eq_false_iff_eq.mpr c58
                   clear c58
                   obtain ⟨y627, hy627⟩ : ∃ y_ : List (S41), y_ = (([] : List (S41))) := ⟨_, rfl⟩
                   replace H : (if y627.length + t602.length < 2513169434916 then ((some (y627 ++ t602 : List (S41))).bind fun y630 => (if y630.length + l1.length < 2513169434916 then ((shuttlecockref04_All.f k5 t619 (y630 ++ l1)).bind fun t636 => (if t636 = true then (if 0 ≤ (t605.length : Int) then (if (t605.length : Int) ≤ (t622.length : Int) then ((shuttlecockref01_Ints.f k5 (t622.take ((t605.length : Int) : Int).toNat) t605).bind fun t642 => (some t642)) else (none)) else (none)) else (none))) else (none))) else (none)) = some r := by first | (rw [hy627]; with_reducible exact H) | (have H2_ := (Option.bind_some _ _).symm.trans H; rw [hy627]; with_reducible exact H2_) | (have H2_ := (Option.bind_some _ _).symm.trans H; with_reducible exact H2_) | with_reducible exact H | (rw [hy627]; exact H) | exact H
                   have Ny627 := Am hy627
                   clear hy627
                   by_cases c59 : y627.length + t602.length < 2513169434916
                   ·
                    rw [if_pos c59] at H
                    have LMc59 := Am c59
                    clear c59
                    obtain ⟨y630, hy630⟩ : ∃ y_ : List (S41), y_ = (y627 ++ t602) := ⟨_, rfl⟩
                    replace H : (if y630.length + l1.length < 2513169434916 then ((shuttlecockref04_All.f k5 t619 (y630 ++ l1)).bind fun t636 => (if t636 = true then (if 0 ≤ (t605.length : Int) then (if (t605.length : Int) ≤ (t622.length : Int) then ((shuttlecockref01_Ints.f k5 (t622.take ((t605.length : Int) : Int).toNat) t605).bind fun t642 => (some t642)) else (none)) else (none)) else (none))) else (none)) = some r := by first | (rw [hy630]; with_reducible exact H) | (have H2_ := (Option.bind_some _ _).symm.trans H; rw [hy630]; with_reducible exact H2_) | (have H2_ := (Option.bind_some _ _).symm.trans H; with_reducible exact H2_) | with_reducible exact H | (rw [hy630]; exact H) | exact H
                    have Ny630 := Am hy630
                    clear hy630
                    by_cases c60 : y630.length + l1.length < 2513169434916
                    ·
                     rw [if_pos c60] at H
                     have LMc60 := Am c60
                     clear c60
                     obtain ⟨y633, hy633⟩ : ∃ y_ : List (S41), y_ = (y630 ++ l1) := ⟨_, rfl⟩
                     replace H : ((shuttlecockref04_All.f k5 t619 y633).bind fun t636 => (if t636 = true then (if 0 ≤ (t605.length : Int) then (if (t605.length : Int) ≤ (t622.length : Int) then ((shuttlecockref01_Ints.f k5 (t622.take ((t605.length : Int) : Int).toNat) t605).bind fun t642 => (some t642)) else (none)) else (none)) else (none))) = some r := by first | (rw [hy633]; with_reducible exact H) | (have H2_ := (Option.bind_some _ _).symm.trans H; rw [hy633]; with_reducible exact H2_) | (have H2_ := (Option.bind_some _ _).symm.trans H; with_reducible exact H2_) | with_reducible exact H | (rw [hy633]; exact H) | exact H
                     have Ny633 := Am hy633
                     clear hy633
                     replace H := ob H
                     obtain ⟨t636, A610, H⟩ := H
                     replace H : (if t636 = true then (if 0 ≤ (t605.length : Int) then (if (t605.length : Int) ≤ (t622.length : Int) then ((shuttlecockref01_Ints.f k5 (t622.take ((t605.length : Int) : Int).toNat) t605).bind fun t642 => (some t642)) else (none)) else (none)) else (none)) = some r := H
                     have A61 := Am A610
                     clear A610
                     by_cases c62 : t636 = true
                     ·
                      subst c62
                      have H1 : (if 0 ≤ (t605.length : Int) then (if (t605.length : Int) ≤ (t622.length : Int) then ((shuttlecockref01_Ints.f k5 (t622.take ((t605.length : Int) : Int).toNat) t605).bind fun t642 => (some t642)) else (none)) else (none)) = some r := by rw [if_pos rfl] at H; exact H
                      clear H
                      have H := H1
                      clear H1
                      by_cases c63 : 0 ≤ (t605.length : Int)
                      ·
                       rw [if_pos c63] at H
                       have c63b0 := eq_true c63
                       have c63b1 : decide (0 ≤ (t605.length : Int)) = true := decide_eq_true c63
                       clear c63
                       by_cases c64 : (t605.length : Int) ≤ (t622.length : Int)
                       ·
                        rw [if_pos c64] at H
                        have c64b0 := eq_true c64
                        have c64b1 : decide ((t605.length : Int) ≤ (t622.length : Int)) = true := decide_eq_true c64
                        clear c64
                        obtain ⟨y637, hy637⟩ : ∃ y_ : List Int, y_ = (t622.take ((t605.length : Int) : Int).toNat) := ⟨_, rfl⟩
                        replace H : ((shuttlecockref01_Ints.f k5 y637 t605).bind fun t642 => (some t642)) = some r := by first | (rw [hy637]; with_reducible exact H) | (have H2_ := (Option.bind_some _ _).symm.trans H; rw [hy637]; with_reducible exact H2_) | (have H2_ := (Option.bind_some _ _).symm.trans H; with_reducible exact H2_) | with_reducible exact H | (rw [hy637]; exact H) | exact H
                        have Ny637 := Am hy637
                        clear hy637
                        replace H := ob H
                        obtain ⟨t642, A650, H⟩ := H
                        replace H : (some t642) = some r := H
                        have A65 := Am A650
                        clear A650
                        obtain rfl := Option.some.inj H
                        have hcz66_0 : wr.cell? ⟨gb598, 0, none⟩ = some (.int .i64 a0_0) := (bc BK598.out 0).trans rfl
                        have hcz66_1 : wr.cell? ⟨gb598, 1, none⟩ = some (.int .i64 a0_1) := (bc BK598.out 1).trans rfl
                        have hcz66_2 : wr.cell? ⟨gb598, 2, none⟩ = some (.int .i64 a0_2) := (bc BK598.out 2).trans rfl
                        have hcz66_3 : wr.cell? ⟨gb598, 3, none⟩ = some (.string a0_3) := (bc BK598.out 3).trans rfl
                        have hfz66_0 := bf BK598.out 0
                        have hfz66_1 := bf BK598.out 1
                        have hfz66_2 := bf BK598.out 2
                        have hfz66_3 := bf BK598.out 3
                        try go_wp2_with (first | ((with_reducible refine gate_dst (N := 12) rfl ?_); (try (refine gate_guard (by rfl) ?_; dsimp only)); refine box_event ?hg (N := 12) ?hd (cs := #[.int .i64 0, .int .i64 0, .int .i64 0, .string (⟨#[]⟩ : ByteArray)]) (t := 23) ?hr ?_; (case hd => rfl); (case hg => rfl); (case hr => first | (go_simp; done) | (go_simp; rfl)); intro gb617 hg w67 hbox hb; have n0_ := Am (Kd.V_below (Kd.V_elderB (by (with_reducible repeat (first | apply Kd.V_alloc | apply Kd.V_drewN | apply Kd.V_drew)); exact HO_1.out) gb617 (Nat.le_of_eq hg.symm)) hb); have n1_ := Am (Kd.N_below (Kd.N_elderB (by (with_reducible repeat (first | apply Kd.N_alloc | apply Kd.N_drewN | apply Kd.N_drew)); exact HO_5.out) gb617 (Nat.le_of_eq hg.symm)) hb); have n2_ := Am (Kd.R_below (by (with_reducible repeat (first | apply Kd.R_alloc | apply Kd.R_drewN | apply Kd.R_drew)); exact HO_6.out) hb); have n3_ := Am (blk_below (g := gb598) (o := .cells #[.int .i64 a0_0, .int .i64 a0_1, .int .i64 a0_2, .string a0_3] 23 (0, 0)) (by (with_reducible repeat (first | refine bn ?_ _ | refine bd ?_ | refine ba ?_ _)); exact BK598.out) hb); have n4_ := Am (below_step (by repeat (first | (with_reducible first | exact HB.out | apply bl | apply pN | apply b1 | refine bs ?_ GE598.out) | exact HB.out | exact HBo.out)) hb); have n5_ := Am (hbox); have n6_ := Am ((by rw [hg]; exact (below_size (by repeat (first | (with_reducible first | exact HB.out | apply bl | apply pN | apply b1 | refine bs ?_ GE598.out) | exact HB.out | exact HBo.out))) : w.heap.size ≤ gb617)); have n7_ := Am ((by rw [hg]; exact (below_size (by repeat (first | (with_reducible first | exact HB.out | apply bl | apply pN | apply b1 | refine bs ?_ GE598.out) | exact HB.out | exact HBo.out))) : w.heap.size ≤ gb617)); have n8_ := Am ((by rw [hg]; exact Nat.ne_of_lt (blk_lt (g := gb598) (o := .cells #[.int .i64 a0_0, .int .i64 a0_1, .int .i64 a0_2, .string a0_3] 23 (0, 0)) (by (with_reducible repeat (first | refine bn ?_ _ | refine bd ?_ | refine ba ?_ _)); exact BK598.out)) : gb598 ≠ gb617)); have n9_ := Am ((by rw [hg]; exact Nat.ne_of_gt (blk_lt (g := gb598) (o := .cells #[.int .i64 a0_0, .int .i64 a0_1, .int .i64 a0_2, .string a0_3] 23 (0, 0)) (by (with_reducible repeat (first | refine bn ?_ _ | refine bd ?_ | refine ba ?_ _)); exact BK598.out)) : gb617 ≠ gb598)); clear HO_1; clear HO_5; clear HO_6; clear BK598; clear HB; have HO_1 := n0_; have HO_5 := n1_; have HO_6 := n2_; have BK598 := n3_; have HB := n4_; have BK617 := n5_; have GW617 := n6_; have GE617 := n7_; have NB598_617 := n8_; have NB617_598 := n9_; clear n0_ n1_ n2_ n3_ n4_ n5_ n6_ n7_ n8_ n9_; clear hb hbox hg; have hnb68 := NB617_598.out; have hnc68 := NB598_617.out; have hcz69_0 : w67.cell? ⟨gb617, 0, none⟩ = some (.int .i64 0) := (bc BK617.out 0).trans rfl; have hcz69_1 : w67.cell? ⟨gb617, 1, none⟩ = some (.int .i64 0) := (bc BK617.out 1).trans rfl; have hcz69_2 : w67.cell? ⟨gb617, 2, none⟩ = some (.int .i64 0) := (bc BK617.out 2).trans rfl; have hcz69_3 : w67.cell? ⟨gb617, 3, none⟩ = some (.string (⟨#[]⟩ : ByteArray)) := (bc BK617.out 3).trans rfl; have hfz69_0 := bf BK617.out 0; have hfz69_1 := bf BK617.out 1; have hfz69_2 := bf BK617.out 2; have hfz69_3 := bf BK617.out 3))
                        have n0_ : Aside0 (Kd.V k41 41 ((((w67.setCell ⟨gb617, 0, none⟩ (.int .i64 a0_0)).setCell ⟨gb617, 1, none⟩ (.int .i64 a0_1)).setCell ⟨gb617, 2, none⟩ (.int .i64 a0_2)).setCell ⟨gb617, 3, none⟩ (.string a0_3)) w.heap.size (fun k_ => (P1_ k_ ∨ w.heap.size ≤ k_) ∧ some k_ ≠ (v603 : Value).ownBlock ∧ some k_ ≠ (v606 : Value).ownBlock ∧ k_ ≠ gb598 ∧ k_ ≠ gb617) (.slice A1 l1.length c1) l1) := ⟨by (with_reducible repeat (first | apply Kd.V_alloc | apply Kd.V_drewN | apply Kd.V_drew)); exact Kd.V_mono (Kd.V_far (p := ⟨gb617, 3, none⟩) (Kd.V_far (p := ⟨gb617, 2, none⟩) (Kd.V_far (p := ⟨gb617, 1, none⟩) (Kd.V_far (p := ⟨gb617, 0, none⟩) (Kd.V_mono HO_1.out (fun k_ hk => (⟨hk, hk.2⟩ : _ ∧ k_ ≠ gb617))) (fun _ hk => hk.2) (.int .i64 a0_0)) (fun _ hk => hk.2) (.int .i64 a0_1)) (fun _ hk => hk.2) (.int .i64 a0_2)) (fun _ hk => hk.2) (.string a0_3)) (fun _ hk => ⟨hk.1.1.1, ⟨hk.1.1.2.1, ⟨hk.1.1.2.2.1, ⟨hk.1.1.2.2.2, hk.1.2⟩⟩⟩⟩)⟩
                        have n1_ : Aside0 (Kd.N k41 41 ((((w67.setCell ⟨gb617, 0, none⟩ (.int .i64 a0_0)).setCell ⟨gb617, 1, none⟩ (.int .i64 a0_1)).setCell ⟨gb617, 2, none⟩ (.int .i64 a0_2)).setCell ⟨gb617, 3, none⟩ (.string a0_3)) w.heap.size (fun k_ => (P1_ k_ ∨ w.heap.size ≤ k_) ∧ some k_ ≠ (v606 : Value).ownBlock ∧ k_ ≠ gb598 ∧ k_ ≠ gb617) v603 t602) := ⟨by (with_reducible repeat (first | apply Kd.N_alloc | apply Kd.N_drewN | apply Kd.N_drew)); exact Kd.N_mono (Kd.N_far (p := ⟨gb617, 3, none⟩) (Kd.N_far (p := ⟨gb617, 2, none⟩) (Kd.N_far (p := ⟨gb617, 1, none⟩) (Kd.N_far (p := ⟨gb617, 0, none⟩) (Kd.N_mono HO_5.out (fun k_ hk => (⟨hk, hk.2⟩ : _ ∧ k_ ≠ gb617))) (fun _ hk => hk.2) (.int .i64 a0_0)) (fun _ hk => hk.2) (.int .i64 a0_1)) (fun _ hk => hk.2) (.int .i64 a0_2)) (fun _ hk => hk.2) (.string a0_3)) (fun _ hk => ⟨hk.1.1.1, ⟨hk.1.1.2.1, ⟨hk.1.1.2.2, hk.1.2⟩⟩⟩)⟩
                        have n2_ : Aside0 (Kd.R (Kd.int .i64) 3 ((((w67.setCell ⟨gb617, 0, none⟩ (.int .i64 a0_0)).setCell ⟨gb617, 1, none⟩ (.int .i64 a0_1)).setCell ⟨gb617, 2, none⟩ (.int .i64 a0_2)).setCell ⟨gb617, 3, none⟩ (.string a0_3)) w.heap.size (fun k_ => (w.heap.size ≤ k_)) v606 t605) := ⟨by (with_reducible repeat (first | apply Kd.R_alloc | apply Kd.R_drewN | apply Kd.R_drew)); exact Kd.R_mono (Kd.R_far (p := ⟨gb617, 3, none⟩) (Kd.R_far (p := ⟨gb617, 2, none⟩) (Kd.R_far (p := ⟨gb617, 1, none⟩) (Kd.R_far (p := ⟨gb617, 0, none⟩) (Kd.R_types HO_6.out BK617.out (by decide)) (fun _ hk => hk.2) (.int .i64 a0_0)) (fun _ hk => hk.2) (.int .i64 a0_1)) (fun _ hk => hk.2) (.int .i64 a0_2)) (fun _ hk => hk.2) (.string a0_3)) (fun _ hk => hk.1)⟩
                        have n3_ : Aside0 (((((w67.setCell ⟨gb617, 0, none⟩ (.int .i64 a0_0)).setCell ⟨gb617, 1, none⟩ (.int .i64 a0_1)).setCell ⟨gb617, 2, none⟩ (.int .i64 a0_2)).setCell ⟨gb617, 3, none⟩ (.string a0_3)).heap[gb598]? = some (.cells #[.int .i64 a0_0, .int .i64 a0_1, .int .i64 a0_2, .string a0_3] 23 (0, 0))) := ⟨by (with_reducible repeat (first | refine bn ?_ _ | refine bd ?_ | refine ba ?_ _)); refine blk_far ?_ NB598_617.out _; (with_reducible repeat (first | refine bn ?_ _ | refine bd ?_ | refine ba ?_ _)); refine blk_far ?_ NB598_617.out _; (with_reducible repeat (first | refine bn ?_ _ | refine bd ?_ | refine ba ?_ _)); refine blk_far ?_ NB598_617.out _; (with_reducible repeat (first | refine bn ?_ _ | refine bd ?_ | refine ba ?_ _)); refine blk_far ?_ NB598_617.out _; (with_reducible repeat (first | refine bn ?_ _ | refine bd ?_ | refine ba ?_ _)); exact BK598.out⟩
                        have n4_ : Aside0 (((((w67.setCell ⟨gb617, 0, none⟩ (.int .i64 a0_0)).setCell ⟨gb617, 1, none⟩ (.int .i64 a0_1)).setCell ⟨gb617, 2, none⟩ (.int .i64 a0_2)).setCell ⟨gb617, 3, none⟩ (.string a0_3)).heap[gb617]? = some (.cells #[.int .i64 a0_0, .int .i64 a0_1, .int .i64 a0_2, .string a0_3] 23 (0, 0))) := ⟨by (with_reducible repeat (first | refine bn ?_ _ | refine bd ?_ | refine ba ?_ _)); refine blk_put (cs := #[.int .i64 a0_0, .int .i64 a0_1, .int .i64 a0_2, .string (⟨#[]⟩ : ByteArray)]) ?_ 3 _ rfl; (with_reducible repeat (first | refine bn ?_ _ | refine bd ?_ | refine ba ?_ _)); refine blk_put (cs := #[.int .i64 a0_0, .int .i64 a0_1, .int .i64 0, .string (⟨#[]⟩ : ByteArray)]) ?_ 2 _ rfl; (with_reducible repeat (first | refine bn ?_ _ | refine bd ?_ | refine ba ?_ _)); refine blk_put (cs := #[.int .i64 a0_0, .int .i64 0, .int .i64 0, .string (⟨#[]⟩ : ByteArray)]) ?_ 1 _ rfl; (with_reducible repeat (first | refine bn ?_ _ | refine bd ?_ | refine ba ?_ _)); refine blk_put (cs := #[.int .i64 0, .int .i64 0, .int .i64 0, .string (⟨#[]⟩ : ByteArray)]) ?_ 0 _ rfl; (with_reducible repeat (first | refine bn ?_ _ | refine bd ?_ | refine ba ?_ _)); exact BK617.out⟩
                        have n5_ : Aside0 (Below w.heap.size w ((((w67.setCell ⟨gb617, 0, none⟩ (.int .i64 a0_0)).setCell ⟨gb617, 1, none⟩ (.int .i64 a0_1)).setCell ⟨gb617, 2, none⟩ (.int .i64 a0_2)).setCell ⟨gb617, 3, none⟩ (.string a0_3))) := ⟨by repeat (first | (with_reducible first | exact HB.out | apply bl | apply pN | apply b1 | refine bs ?_ GE598.out | refine bs ?_ GE617.out) | exact HB.out | exact HBo.out)⟩
                        (try clear HO_1)
                        (try clear HO_5)
                        (try clear HO_6)
                        (try clear BK598)
                        (try clear BK617)
                        (try clear HB)
                        generalize ((((w67.setCell ⟨gb617, 0, none⟩ (.int .i64 a0_0)).setCell ⟨gb617, 1, none⟩ (.int .i64 a0_1)).setCell ⟨gb617, 2, none⟩ (.int .i64 a0_2)).setCell ⟨gb617, 3, none⟩ (.string a0_3)) = w70 at n0_ n1_ n2_ n3_ n4_ n5_ ⊢
                        have HO_1 := n0_
                        have HO_5 := n1_
                        have HO_6 := n2_
                        have BK598 := n3_
                        have BK617 := n4_
                        have HB := n5_
                        clear n0_ n1_ n2_ n3_ n4_ n5_
                        have n0_ := Am (Kd.V_drew HO_1.out)
                        have n1_ := Am (Kd.N_drew HO_5.out)
                        have n2_ := Am (Kd.R_drew HO_6.out)
                        have n3_ := Am (bd BK598.out)
                        have n4_ := Am (bd BK617.out)
                        have n5_ := Am (b1 HB.out)
                        clear HO_1
                        clear HO_5
                        clear HO_6
                        clear BK598
                        clear BK617
                        clear HB
                        have HO_1 := n0_
                        have HO_5 := n1_
                        have HO_6 := n2_
                        have BK598 := n3_
                        have BK617 := n4_
                        have HB := n5_
                        clear n0_ n1_ n2_ n3_ n4_ n5_
                        refine start_ (n := 7) (S := fun w' => w'.cell? ⟨gb598, 0, none⟩ = some (.int .i64 a0_0) ∧ w'.cell? ⟨gb598, 1, none⟩ = some (.int .i64 a0_1) ∧ w'.cell? ⟨gb598, 2, none⟩ = some (.int .i64 a0_2) ∧ w'.cell? ⟨gb598, 3, none⟩ = some (.string a0_3)) (ds := []) q19_19 (by kernel_rfl) rfl rfl ⟨(bc BK598.out 0).trans rfl, (bc BK598.out 1).trans rfl, (bc BK598.out 2).trans rfl, (bc BK598.out 3).trans rfl⟩ (fun hHeld => ?_)
                        generalize w70.drew = w71 at HO_1 HO_5 HO_6 BK598 BK617 HB hHeld ⊢
                        refine pure_ (i := 0) (N := some 116) (v := ?_) (a' := ?_) q19_20 rfl rfl (by kernel_rfl) (fun _ _ _ h => h) (Or.inl ⟨by rfl, ?_⟩) ?_ ?_
                        rotate_left
                        ·
                         intro w'
                         go_simp
                         with_reducible rfl
                        rotate_left
                        ·
                         simp only [Act.put, sI, sZ, sS, i64_w, i32_w]
                         rfl
                        refine pure_ (i := 2) (N := some 118) (v := ?_) (a' := ?_) q19_21 rfl rfl (by kernel_rfl) (fun _ _ _ h => h) (Or.inl ⟨by rfl, ?_⟩) ?_ ?_
                        rotate_left
                        ·
                         intro w'
                         go_simp
                         with_reducible rfl
                        rotate_left
                        ·
                         simp only [Act.put, sI, sZ, sS, i64_w, i32_w]
                         rfl
                        refine take_ (i := 1) (N := some 117) (v := ?_) (a' := ?_) q19_22 rfl rfl (by kernel_rfl) (fun _ _ _ h => h) (Or.inl ⟨by rfl, ?_⟩) hHeld ?_ ?_
                        rotate_left
                        ·
                         rintro w' ⟨s0, s1, s2, s3⟩
                         go_simp
                         with_reducible rfl
                        rotate_left
                        ·
                         simp only [Act.put, sI, sZ, sS, i64_w, i32_w]
                         rfl
                        refine one_ (i := 3) (N := some 119) q19_23 rfl rfl (by kernel_rfl) (by decide) (fun K hK => ?_)
                        refine goes_ Try.func20 (by kernel_rfl) rfl #[.slice A1 l1.length c1] (by rfl) rfl rfl (by (try simp only [List.map_toArray, List.map_cons, List.map_nil]); first | done | rfl | (simp only [List.length_drop, List.length_take]; rfl)) ?_
                        with_reducible refine (shuttlecockref04_Bytes.calls k5 _ _ l1 t618 _ ?side1 ?side2 A54.out).mono ?_
                        (case side1 => repeat (first | exact (Kd.V_reads' HO_1.out).2.2 | (with_reducible refine Kd.C_alloc ?_ _) | (with_reducible refine Kd.C_drewN ?_ _) | (with_reducible refine Kd.C_drew ?_)))
                        (case side2 => exact (Kd.V_reads' HO_1.out).2.1)
                        rintro e w72 ⟨rfl, hb⟩
                        refine ⟨_, rfl, ?_⟩
                        have n0_ := Am (Kd.V_below (by (with_reducible repeat (first | apply Kd.V_alloc | apply Kd.V_drewN | apply Kd.V_drew)); exact HO_1.out) hb)
                        have n1_ := Am (Kd.N_below (by (with_reducible repeat (first | apply Kd.N_alloc | apply Kd.N_drewN | apply Kd.N_drew)); exact HO_5.out) hb)
                        have n2_ := Am (Kd.R_below (by (with_reducible repeat (first | apply Kd.R_alloc | apply Kd.R_drewN | apply Kd.R_drew)); exact HO_6.out) hb)
                        have n3_ := Am (blk_below (g := gb598) (o := .cells #[.int .i64 a0_0, .int .i64 a0_1, .int .i64 a0_2, .string a0_3] 23 (0, 0)) (by (with_reducible repeat (first | refine bn ?_ _ | refine bd ?_ | refine ba ?_ _)); exact BK598.out) hb)
                        have n4_ := Am (blk_below (g := gb617) (o := .cells #[.int .i64 a0_0, .int .i64 a0_1, .int .i64 a0_2, .string a0_3] 23 (0, 0)) (by (with_reducible repeat (first | refine bn ?_ _ | refine bd ?_ | refine ba ?_ _)); exact BK617.out) hb)
                        have n5_ := Am (below_step (by repeat (first | (with_reducible first | exact HB.out | apply bl | apply pN | apply b1 | refine bs ?_ GE598.out | refine bs ?_ GE617.out) | exact HB.out | exact HBo.out)) hb)
                        clear HO_1
                        clear HO_5
                        clear HO_6
                        clear BK598
                        clear BK617
                        clear HB
                        have HO_1 := n0_
                        have HO_5 := n1_
                        have HO_6 := n2_
                        have BK598 := n3_
                        have BK617 := n4_
                        have HB := n5_
                        clear n0_ n1_ n2_ n3_ n4_ n5_
                        (try clear hb)
                        (try clear hb2)
                        (try clear hk)
                        (try clear hi)
                        refine hK.out _ _ ⟨(bc BK598.out 0).trans rfl, (bc BK598.out 1).trans rfl, (bc BK598.out 2).trans rfl, (bc BK598.out 3).trans rfl⟩ (fun hHeld => ?_)
                        clear hK K
                        refine norm_ (a' := ?_) ?_ ?_
                        rotate_left
                        ·
                         show Act.put _ (some 119) _ = _
                         simp only [Act.put, sI, sZ, sS, i64_w, i32_w]
                         rfl
                        refine pure_ (i := 4) (N := some 120) (v := ?_) (a' := ?_) q19_24 rfl rfl (by kernel_rfl) (fun _ _ _ h => h) (Or.inl ⟨by rfl, ?_⟩) ?_ ?_
                        rotate_left
                        ·
                         intro w'
                         go_simp
                         with_reducible rfl
                        rotate_left
                        ·
                         simp only [Act.put, sI, sZ, sS, i64_w, i32_w]
                         rfl
                        refine pure_ (i := 5) (N := some 121) (v := ?_) (a' := ?_) q19_25 rfl rfl (by kernel_rfl) (fun _ _ _ h => h) (Or.inl ⟨by rfl, ?_⟩) ?_ ?_
                        rotate_left
                        ·
                         intro w'
                         go_simp
                         with_reducible rfl
                        rotate_left
                        ·
                         simp only [Act.put, sI, sZ, sS, i64_w, i32_w]
                         rfl
                        refine one_ (i := 6) (N := none) q19_26 rfl rfl (by kernel_rfl) (by decide) (fun K hK => ?_)
                        have hs73 : w72.cell? ⟨gb617, 3, none⟩ = some (.string a0_3) := (bc BK617.out 3).trans rfl
                        have hfs73 := bf BK617.out 3
                        have hns73_0 := NB598_617.out
                        have hms73_0 := NB617_598.out
                        refine skip_ (w1 := ?_) (by rfl) rfl ?_ ?_
                        rotate_left
                        ·
                         go_simp
                         rfl
                        refine hK.out _ _ ⟨((cell_far (p := ⟨gb617, _, none⟩) NB598_617.out _).trans (hHeld.1)), ((cell_far (p := ⟨gb617, _, none⟩) NB598_617.out _).trans (hHeld.2.1)), ((cell_far (p := ⟨gb617, _, none⟩) NB598_617.out _).trans (hHeld.2.2.1)), ((cell_far (p := ⟨gb617, _, none⟩) NB598_617.out _).trans (hHeld.2.2.2))⟩ (fun hHeld => ?_)
                        clear hK K
                        refine done_ (by kernel_rfl) ?_
                        have hcz74_0 : w72.cell? ⟨gb617, 0, none⟩ = some (.int .i64 a0_0) := (bc BK617.out 0).trans rfl
                        have hcz74_1 : w72.cell? ⟨gb617, 1, none⟩ = some (.int .i64 a0_1) := (bc BK617.out 1).trans rfl
                        have hcz74_2 : w72.cell? ⟨gb617, 2, none⟩ = some (.int .i64 a0_2) := (bc BK617.out 2).trans rfl
                        have hcz74_3 : w72.cell? ⟨gb617, 3, none⟩ = some (.string a0_3) := (bc BK617.out 3).trans rfl
                        have hfz74_0 := bf BK617.out 0
                        have hfz74_1 := bf BK617.out 1
                        have hfz74_2 := bf BK617.out 2
                        have hfz74_3 := bf BK617.out 3
                        try go_wp2_with (first | ((with_reducible refine gate_callee (f := 11) rfl ?_); refine goesL_ (some 124) rfl rfl Try.func11 (by kernel_rfl) rfl #[.agg #[.int .i64 a0_0, .int .i64 a0_1, .int .i64 a0_2, .string (a0_3 ++ t618)]] rfl (by (try simp only [List.map_toArray, List.map_cons, List.map_nil]); first | done | rfl | (simp only [List.length_drop, List.length_take]; rfl)) ?_; (with_reducible refine (batch_Events.calls k5 a0_0 a0_1 a0_2 (a0_3 ++ t618) t619 t622 t625 t626 _ A56.out).mono ?_); rintro e w75 ⟨v620, v623, rfl, ho0, ho1, hb⟩; refine ⟨_, rfl, ?_⟩; have n0_ := Am (Kd.V_mono (Kd.V_told (Kd.V_told (Kd.V_old (by (with_reducible repeat (first | apply Kd.V_alloc | apply Kd.V_drewN | apply Kd.V_drew)); exact (Kd.V_mono (Kd.V_far (p := ⟨gb617, 3, none⟩) (Kd.V_mono HO_1.out (fun k_ hk => (⟨hk, hk.2.2.2.2⟩ : _ ∧ k_ ≠ gb617))) (fun _ hk => hk.2) (.string (a0_3 ++ t618))) (fun _ h_ => h_.1))) hb) (Kd.S_base ho0)) (Kd.R_base ho1)) (fun _ h_ => h_.1)); have n1_ := Am (Kd.N_mono (Kd.N_told (Kd.N_told (Kd.N_old (by (with_reducible repeat (first | apply Kd.N_alloc | apply Kd.N_drewN | apply Kd.N_drew)); exact (Kd.N_mono (Kd.N_far (p := ⟨gb617, 3, none⟩) (Kd.N_mono HO_5.out (fun k_ hk => (⟨hk, hk.2.2.2⟩ : _ ∧ k_ ≠ gb617))) (fun _ hk => hk.2) (.string (a0_3 ++ t618))) (fun _ h_ => h_.1))) hb) (Kd.S_base ho0)) (Kd.R_base ho1)) (fun _ h_ => h_.1)); have n2_ := Am (Kd.R_elder' (by (with_reducible repeat (first | apply Kd.R_alloc | apply Kd.R_drewN | apply Kd.R_drew)); exact (Kd.R_mono (Kd.R_far (p := ⟨gb617, 3, none⟩) (Kd.R_types HO_6.out BK617.out (by decide)) (fun _ hk => hk.2) (.string (a0_3 ++ t618))) (fun _ h_ => h_.1))) (Kd.R_base ho1) hb); have n3_ := Am (Kd.N_lower (Kd.N_mono (ok' := fun k_ => (P1_ k_ ∨ w.heap.size ≤ k_) ∧ some k_ ≠ (v623 : Value).ownBlock ∧ some k_ ≠ (v603 : Value).ownBlock ∧ some k_ ≠ (v606 : Value).ownBlock ∧ k_ ≠ gb598 ∧ k_ ≠ gb617) (Kd.S_N (Kd.S_bound ho0)) (fun k_ hk_ => ⟨(.inr (Nat.le_trans (below_size (by repeat (first | (with_reducible first | exact HB.out | apply bl | apply pN | apply b1 | refine bs ?_ GE598.out | refine bs ?_ GE617.out) | exact HB.out | exact HBo.out))) hk_.2.1)), hk_.1, (Kd.fresh' (Kd.N_lt (by (with_reducible repeat (first | apply Kd.N_alloc | apply Kd.N_drewN | apply Kd.N_drew)); exact (Kd.N_mono (Kd.N_far (p := ⟨gb617, 3, none⟩) (Kd.N_mono HO_5.out (fun k_ hk => (⟨hk, hk.2.2.2⟩ : _ ∧ k_ ≠ gb617))) (fun _ hk => hk.2) (.string (a0_3 ++ t618))) (fun _ h_ => h_.1)))) k_ hk_.2.1), (Kd.fresh' (Kd.R_lt (by (with_reducible repeat (first | apply Kd.R_alloc | apply Kd.R_drewN | apply Kd.R_drew)); exact (Kd.R_mono (Kd.R_far (p := ⟨gb617, 3, none⟩) (Kd.R_types HO_6.out BK617.out (by decide)) (fun _ hk => hk.2) (.string (a0_3 ++ t618))) (fun _ h_ => h_.1)))) k_ hk_.2.1), (Kd.freshB (g := gb598) (o := .cells #[.int .i64 a0_0, .int .i64 a0_1, .int .i64 a0_2, .string a0_3] 23 (0, 0)) (by (with_reducible repeat (first | refine bn ?_ _ | refine bd ?_ | refine ba ?_ _)); refine blk_far ?_ NB598_617.out _; (with_reducible repeat (first | refine bn ?_ _ | refine bd ?_ | refine ba ?_ _)); exact BK598.out) k_ hk_.2.1), (Kd.freshB (g := gb617) (o := .cells #[.int .i64 a0_0, .int .i64 a0_1, .int .i64 a0_2, .string (a0_3 ++ t618)] 23 (0, 0)) (by (with_reducible repeat (first | refine bn ?_ _ | refine bd ?_ | refine ba ?_ _)); refine blk_put (cs := #[.int .i64 a0_0, .int .i64 a0_1, .int .i64 a0_2, .string a0_3]) ?_ 3 _ rfl; (with_reducible repeat (first | refine bn ?_ _ | refine bd ?_ | refine ba ?_ _)); exact BK617.out) k_ hk_.2.1)⟩)) (below_size (by repeat (first | (with_reducible first | exact HB.out | apply bl | apply pN | apply b1 | refine bs ?_ GE598.out | refine bs ?_ GE617.out) | exact HB.out | exact HBo.out)))); have n4_ := Am (Kd.R_lower (Kd.R_new' (Kd.R_newM (M := fun k_ => (w.heap.size ≤ k_)) ho1 (below_size (by repeat (first | (with_reducible first | exact HB.out | apply bl | apply pN | apply b1 | refine bs ?_ GE598.out | refine bs ?_ GE617.out) | exact HB.out | exact HBo.out))) (fun k_ h_ => h_)) (Kd.R_lt (by (with_reducible repeat (first | apply Kd.R_alloc | apply Kd.R_drewN | apply Kd.R_drew)); exact (Kd.R_mono (Kd.R_far (p := ⟨gb617, 3, none⟩) (Kd.R_types HO_6.out BK617.out (by decide)) (fun _ hk => hk.2) (.string (a0_3 ++ t618))) (fun _ h_ => h_.1))))) (below_size (by repeat (first | (with_reducible first | exact HB.out | apply bl | apply pN | apply b1 | refine bs ?_ GE598.out | refine bs ?_ GE617.out) | exact HB.out | exact HBo.out)))); have n5_ := Am (blk_below (g := gb598) (o := .cells #[.int .i64 a0_0, .int .i64 a0_1, .int .i64 a0_2, .string a0_3] 23 (0, 0)) (by (with_reducible repeat (first | refine bn ?_ _ | refine bd ?_ | refine ba ?_ _)); refine blk_far ?_ NB598_617.out _; (with_reducible repeat (first | refine bn ?_ _ | refine bd ?_ | refine ba ?_ _)); exact BK598.out) hb); have n6_ := Am (blk_below (g := gb617) (o := .cells #[.int .i64 a0_0, .int .i64 a0_1, .int .i64 a0_2, .string (a0_3 ++ t618)] 23 (0, 0)) (by (with_reducible repeat (first | refine bn ?_ _ | refine bd ?_ | refine ba ?_ _)); refine blk_put (cs := #[.int .i64 a0_0, .int .i64 a0_1, .int .i64 a0_2, .string a0_3]) ?_ 3 _ rfl; (with_reducible repeat (first | refine bn ?_ _ | refine bd ?_ | refine ba ?_ _)); exact BK617.out) hb); have n7_ := Am (below_step (by repeat (first | (with_reducible first | exact HB.out | apply bl | apply pN | apply b1 | refine bs ?_ GE598.out | refine bs ?_ GE617.out) | exact HB.out | exact HBo.out)) hb); clear HO_1; clear HO_5; clear HO_6; clear BK598; clear BK617; clear HB; have HO_1 := n0_; have HO_5 := n1_; have HO_6 := n2_; have HO621 := n3_; have HO624 := n4_; have BK598 := n5_; have BK617 := n6_; have HB := n7_; clear n0_ n1_ n2_ n3_ n4_ n5_ n6_ n7_; (try clear hb); (try clear hb2); (try clear hk); (try clear hi); (try clear ho0); (try clear ho1); obtain ⟨Ao76, co76, eo76⟩ := Kd.R_slice HO624.out; subst eo76; obtain ⟨Ao77, co77, eo77⟩ := Kd.R_slice HO_6.out; subst eo77) | ((with_reducible refine gate_dst (N := 148) rfl ?_); (try (refine gate_guard (by rfl) ?_; dsimp only)); refine Kd.N_lit k41 _ 41 ?hg (N' := 148) ?hd (xs := ([] : List (S41))) (inner := []) (ok := (fun k_ => (P1_ k_ ∨ w.heap.size ≤ k_) ∧ some k_ ≠ (v603 : Value).ownBlock ∧ some k_ ≠ (.slice Ao77 t605.length co77 : Value).ownBlock ∧ some k_ ≠ (v620 : Value).ownBlock ∧ some k_ ≠ (.slice Ao76 t622.length co76 : Value).ownBlock ∧ k_ ≠ gb598 ∧ k_ ≠ gb617)) (okp := (fun k_ => (P1_ k_ ∨ w.heap.size ≤ k_) ∧ some k_ ≠ (v603 : Value).ownBlock ∧ some k_ ≠ (.slice Ao77 t605.length co77 : Value).ownBlock ∧ some k_ ≠ (v620 : Value).ownBlock ∧ some k_ ≠ (.slice Ao76 t622.length co76 : Value).ownBlock ∧ k_ ≠ gb598 ∧ k_ ≠ gb617)) ?hr ?hp (fun _ hk => hk) ((show ∀ k_, w75.heap.size ≤ k_ → (fun k_ => (P1_ k_ ∨ w.heap.size ≤ k_) ∧ some k_ ≠ (v603 : Value).ownBlock ∧ some k_ ≠ (.slice Ao77 t605.length co77 : Value).ownBlock ∧ some k_ ≠ (v620 : Value).ownBlock ∧ some k_ ≠ (.slice Ao76 t622.length co76 : Value).ownBlock ∧ k_ ≠ gb598 ∧ k_ ≠ gb617) k_ from fun k_ hk => ⟨(.inr (Nat.le_trans (below_size (by repeat (first | (with_reducible first | exact HB.out | apply bl | apply pN | apply b1 | refine bs ?_ GE598.out | refine bs ?_ GE617.out) | exact HB.out | exact HBo.out))) hk)), Kd.fresh' (Kd.N_lt (by (with_reducible repeat (first | apply Kd.N_alloc | apply Kd.N_drewN | apply Kd.N_drew)); exact HO_5.out)) k_ hk, Kd.fresh' (Kd.R_lt (by (with_reducible repeat (first | apply Kd.R_alloc | apply Kd.R_drewN | apply Kd.R_drew)); exact HO_6.out)) k_ hk, Kd.fresh' (Kd.N_lt (by (with_reducible repeat (first | apply Kd.N_alloc | apply Kd.N_drewN | apply Kd.N_drew)); exact HO621.out)) k_ hk, Kd.fresh' (Kd.R_lt (by (with_reducible repeat (first | apply Kd.R_alloc | apply Kd.R_drewN | apply Kd.R_drew)); exact HO624.out)) k_ hk, Kd.freshB (g := gb598) (o := .cells #[.int .i64 a0_0, .int .i64 a0_1, .int .i64 a0_2, .string a0_3] 23 (0, 0)) (by (with_reducible repeat (first | refine bn ?_ _ | refine bd ?_ | refine ba ?_ _)); exact BK598.out) k_ hk, Kd.freshB (g := gb617) (o := .cells #[.int .i64 a0_0, .int .i64 a0_1, .int .i64 a0_2, .string (a0_3 ++ t618)] 23 (0, 0)) (by (with_reducible repeat (first | refine bn ?_ _ | refine bd ?_ | refine ba ?_ _)); exact BK617.out) k_ hk⟩) _ (Nat.le_refl _)) (Below.refl _ _) (Nat.le_refl _) (by simp) ?_; (case hd => rfl); (case hg => rfl); (case hr => first | (go_simp; done) | (go_simp; rfl)); (case hp => exact (Reps.none _ _)); intro v628 w78 ho79 hb hg_ hnew_; clear hg_ hnew_; (first | rw [← Ny627.out] at ho79 | (simp only [Int.reduceToNat] at ho79; rw [← Ny627.out] at ho79)); have n0_ := Am (Kd.V_elder' (by (with_reducible repeat (first | apply Kd.V_alloc | apply Kd.V_drewN | apply Kd.V_drew)); exact HO_1.out) (Kd.N_base ho79) hb); have n1_ := Am (Kd.N_elder' (by (with_reducible repeat (first | apply Kd.N_alloc | apply Kd.N_drewN | apply Kd.N_drew)); exact HO_5.out) (Kd.N_base ho79) hb); have n2_ := Am (Kd.R_below (by (with_reducible repeat (first | apply Kd.R_alloc | apply Kd.R_drewN | apply Kd.R_drew)); exact HO_6.out) hb); have n3_ := Am (Kd.N_elder' (by (with_reducible repeat (first | apply Kd.N_alloc | apply Kd.N_drewN | apply Kd.N_drew)); exact HO621.out) (Kd.N_base ho79) hb); have n4_ := Am (Kd.R_below (by (with_reducible repeat (first | apply Kd.R_alloc | apply Kd.R_drewN | apply Kd.R_drew)); exact HO624.out) hb); have n5_ := Am (Kd.N_lower ho79 (below_size (by repeat (first | (with_reducible first | exact HB.out | apply bl | apply pN | apply b1 | refine bs ?_ GE598.out | refine bs ?_ GE617.out) | exact HB.out | exact HBo.out)))); have n6_ := Am (blk_below (g := gb598) (o := .cells #[.int .i64 a0_0, .int .i64 a0_1, .int .i64 a0_2, .string a0_3] 23 (0, 0)) (by (with_reducible repeat (first | refine bn ?_ _ | refine bd ?_ | refine ba ?_ _)); exact BK598.out) hb); have n7_ := Am (blk_below (g := gb617) (o := .cells #[.int .i64 a0_0, .int .i64 a0_1, .int .i64 a0_2, .string (a0_3 ++ t618)] 23 (0, 0)) (by (with_reducible repeat (first | refine bn ?_ _ | refine bd ?_ | refine ba ?_ _)); exact BK617.out) hb); have n8_ := Am (below_step (by repeat (first | (with_reducible first | exact HB.out | apply bl | apply pN | apply b1 | refine bs ?_ GE598.out | refine bs ?_ GE617.out) | exact HB.out | exact HBo.out)) hb); clear HO_1; clear HO_5; clear HO_6; clear HO621; clear HO624; clear BK598; clear BK617; clear HB; have HO_1 := n0_; have HO_5 := n1_; have HO_6 := n2_; have HO621 := n3_; have HO624 := n4_; have HO629 := n5_; have BK598 := n6_; have BK617 := n7_; have HB := n8_; clear n0_ n1_ n2_ n3_ n4_ n5_ n6_ n7_ n8_; clear hb ho79; obtain ⟨Ao81, co81, eo81⟩ := Kd.N_slice HO_5.out; subst eo81) | ((with_reducible refine gate_builtin (b := .append) (xs := #[.tmp 148, .tmp 149]) rfl ?_); (try (refine gate_guard (by rfl) ?_; dsimp only)); at_builtin; refine Kd.N_append_rows k41 (w0 := w) w.heap.size rfl (.tmp 148) (.tmp 149) 28 41 (.agg #[(.int .i64 0), (.int .i64 0), (.slice none 0 0), (.string ⟨#[]⟩)]) 56 rfl Try.underlying28 info41 rfl (by decide) (by omega) v628 y627 t602 _ _ _ (fun k_ => (P1_ k_ ∨ w.heap.size ≤ k_) ∧ some k_ ≠ (.slice Ao77 t605.length co77 : Value).ownBlock ∧ some k_ ≠ (v620 : Value).ownBlock ∧ some k_ ≠ (.slice Ao76 t622.length co76 : Value).ownBlock ∧ k_ ≠ gb598 ∧ k_ ≠ gb617) (fun k_ => ((fun k_ => (P1_ k_ ∨ w.heap.size ≤ k_) ∧ some k_ ≠ (.slice Ao77 t605.length co77 : Value).ownBlock ∧ some k_ ≠ (v620 : Value).ownBlock ∧ some k_ ≠ (.slice Ao76 t622.length co76 : Value).ownBlock ∧ k_ ≠ gb598 ∧ k_ ≠ gb617)) k_ ∧ some k_ ≠ (v628 : Value).ownBlock) rfl rfl ?aO ?aR (fun _ hk => hk) ?aF ?aB ?aS ?aL ?_; (case aR => exact (by skip; exact Kd.N_F (Kd.N_mono (ok' := (fun k_ => ((fun k_ => (P1_ k_ ∨ w.heap.size ≤ k_) ∧ some k_ ≠ (.slice Ao77 t605.length co77 : Value).ownBlock ∧ some k_ ≠ (v620 : Value).ownBlock ∧ some k_ ≠ (.slice Ao76 t622.length co76 : Value).ownBlock ∧ k_ ≠ gb598 ∧ k_ ≠ gb617)) k_ ∧ some k_ ≠ (v628 : Value).ownBlock)) (HO_5.out) (fun k_ hk => ⟨⟨hk.1.1.1.1, ⟨hk.1.1.1.2.1, ⟨hk.1.1.2, ⟨hk.1.2, ⟨hk.1.1.1.2.2.1, hk.1.1.1.2.2.2⟩⟩⟩⟩⟩, hk.2⟩)))); (case aB => exact (by repeat (first | (with_reducible first | exact HB.out | apply bl | apply pN | apply b1 | refine bs ?_ GE598.out | refine bs ?_ GE617.out) | exact HB.out | exact HBo.out))); (case aF => exact (fun k_ hk => ⟨(.inr (Nat.le_trans (below_size (by repeat (first | (with_reducible first | exact HB.out | apply bl | apply pN | apply b1 | refine bs ?_ GE598.out | refine bs ?_ GE617.out) | exact HB.out | exact HBo.out))) hk)), Kd.fresh' (Kd.R_lt (by (with_reducible repeat (first | apply Kd.R_alloc | apply Kd.R_drewN | apply Kd.R_drew)); exact HO_6.out)) k_ hk, Kd.fresh' (Kd.N_lt (by (with_reducible repeat (first | apply Kd.N_alloc | apply Kd.N_drewN | apply Kd.N_drew)); exact HO621.out)) k_ hk, Kd.fresh' (Kd.R_lt (by (with_reducible repeat (first | apply Kd.R_alloc | apply Kd.R_drewN | apply Kd.R_drew)); exact HO624.out)) k_ hk, Kd.freshB (g := gb598) (o := .cells #[.int .i64 a0_0, .int .i64 a0_1, .int .i64 a0_2, .string a0_3] 23 (0, 0)) (by (with_reducible repeat (first | refine bn ?_ _ | refine bd ?_ | refine ba ?_ _)); exact BK598.out) k_ hk, Kd.freshB (g := gb617) (o := .cells #[.int .i64 a0_0, .int .i64 a0_1, .int .i64 a0_2, .string (a0_3 ++ t618)] 23 (0, 0)) (by (with_reducible repeat (first | refine bn ?_ _ | refine bd ?_ | refine ba ?_ _)); exact BK617.out) k_ hk⟩)); (case aO => exact (by (with_reducible repeat (first | apply Kd.N_alloc | apply Kd.N_drewN | apply Kd.N_drew)); exact Kd.N_mono HO629.out (fun _ hk => ⟨hk.1, ⟨hk.2.2.1, ⟨hk.2.2.2.1, ⟨hk.2.2.2.2.1, ⟨hk.2.2.2.2.2.1, hk.2.2.2.2.2.2⟩⟩⟩⟩⟩))); (case aS => exact (below_size (by repeat (first | (with_reducible first | exact HB.out | apply bl | apply pN | apply b1 | refine bs ?_ GE598.out | refine bs ?_ GE617.out) | exact HB.out | exact HBo.out)))); (case aL => have := LMc59.out; omega); intro v631 w80 ho hb hg hat; rw [← Ny630.out] at ho; have n0_ := Am (Kd.V_afterv (ok := (fun k_ => (P1_ k_ ∨ w.heap.size ≤ k_) ∧ some k_ ≠ (.slice Ao81 t602.length co81 : Value).ownBlock ∧ some k_ ≠ (.slice Ao77 t605.length co77 : Value).ownBlock ∧ some k_ ≠ (v620 : Value).ownBlock ∧ some k_ ≠ (.slice Ao76 t622.length co76 : Value).ownBlock ∧ k_ ≠ gb598 ∧ k_ ≠ gb617)) (by (with_reducible repeat (first | apply Kd.V_alloc | apply Kd.V_drewN | apply Kd.V_drew)); exact Kd.V_mono HO_1.out (fun _ hk => ⟨⟨hk.1.1.1.1, ⟨hk.1.1.1.2.1, ⟨hk.1.1.1.2.2.1, ⟨hk.1.1.2, ⟨hk.1.2, ⟨hk.1.1.1.2.2.2.1, hk.1.1.1.2.2.2.2⟩⟩⟩⟩⟩⟩, hk.2⟩)) hg hat); have n1_ := Am (Kd.N_afterv (ok := (fun k_ => (P1_ k_ ∨ w.heap.size ≤ k_) ∧ some k_ ≠ (.slice Ao77 t605.length co77 : Value).ownBlock ∧ some k_ ≠ (v620 : Value).ownBlock ∧ some k_ ≠ (.slice Ao76 t622.length co76 : Value).ownBlock ∧ k_ ≠ gb598 ∧ k_ ≠ gb617)) (by (with_reducible repeat (first | apply Kd.N_alloc | apply Kd.N_drewN | apply Kd.N_drew)); exact Kd.N_mono HO_5.out (fun _ hk => ⟨⟨hk.1.1.1.1, ⟨hk.1.1.1.2.1, ⟨hk.1.1.2, ⟨hk.1.2, ⟨hk.1.1.1.2.2.1, hk.1.1.1.2.2.2⟩⟩⟩⟩⟩, hk.2⟩)) hg hat); have n2_ := Am (Kd.R_over' (by (with_reducible repeat (first | apply Kd.R_alloc | apply Kd.R_drewN | apply Kd.R_drew)); exact HO_6.out) (Kd.N_typed (by (with_reducible repeat (first | apply Kd.N_alloc | apply Kd.N_drewN | apply Kd.N_drew)); exact HO629.out)) (by decide) hg); have n3_ := Am (blk_grown (g := gb598) (o := .cells #[.int .i64 a0_0, .int .i64 a0_1, .int .i64 a0_2, .string a0_3] 23 (0, 0)) (by (with_reducible repeat (first | refine bn ?_ _ | refine bd ?_ | refine ba ?_ _)); exact BK598.out) hg (Kd.N_ne HO629.out BK598.out (by decide))); have n4_ := Am (blk_grown (g := gb617) (o := .cells #[.int .i64 a0_0, .int .i64 a0_1, .int .i64 a0_2, .string (a0_3 ++ t618)] 23 (0, 0)) (by (with_reducible repeat (first | refine bn ?_ _ | refine bd ?_ | refine ba ?_ _)); exact BK617.out) hg (Kd.N_ne HO629.out BK617.out (by decide))); have n5_ := Am (Kd.N_afterv (ok := (fun k_ => (P1_ k_ ∨ w.heap.size ≤ k_) ∧ some k_ ≠ (.slice Ao81 t602.length co81 : Value).ownBlock ∧ some k_ ≠ (.slice Ao77 t605.length co77 : Value).ownBlock ∧ some k_ ≠ (.slice Ao76 t622.length co76 : Value).ownBlock ∧ k_ ≠ gb598 ∧ k_ ≠ gb617)) (by (with_reducible repeat (first | apply Kd.N_alloc | apply Kd.N_drewN | apply Kd.N_drew)); exact Kd.N_mono HO621.out (fun _ hk => ⟨⟨hk.1.1, ⟨hk.1.2.2.1, ⟨hk.1.2.2.2.1, ⟨hk.1.2.1, ⟨hk.1.2.2.2.2.1, hk.1.2.2.2.2.2⟩⟩⟩⟩⟩, hk.2⟩)) hg hat); have n6_ := Am (Kd.R_over' (by (with_reducible repeat (first | apply Kd.R_alloc | apply Kd.R_drewN | apply Kd.R_drew)); exact HO624.out) (Kd.N_typed (by (with_reducible repeat (first | apply Kd.N_alloc | apply Kd.N_drewN | apply Kd.N_drew)); exact HO629.out)) (by decide) hg); have n7_ := Am (hb); have n8_ := Am (ho); clear HO_1; clear HO_5; clear HO_6; clear BK598; clear BK617; clear HO621; clear HO624; clear HB; clear HO629; have HO_1 := n0_; have HO_5 := n1_; have HO_6 := n2_; have BK598 := n3_; have BK617 := n4_; have HO621 := n5_; have HO624 := n6_; have HB := n7_; have HO632 := n8_; clear n0_ n1_ n2_ n3_ n4_ n5_ n6_ n7_ n8_; clear ho hb hg hat) | ((with_reducible refine gate_builtin (b := .append) (xs := #[.tmp 150, .tmp 151]) rfl ?_); (try (refine gate_guard (by rfl) ?_; dsimp only)); at_builtin; refine Kd.N_append_rows k41 (w0 := w) w.heap.size rfl (.tmp 150) (.tmp 151) 28 41 (.agg #[(.int .i64 0), (.int .i64 0), (.slice none 0 0), (.string ⟨#[]⟩)]) 56 rfl Try.underlying28 info41 rfl (by decide) (by omega) v631 y630 l1 _ _ _ (fun k_ => (P1_ k_ ∨ w.heap.size ≤ k_) ∧ some k_ ≠ (.slice Ao77 t605.length co77 : Value).ownBlock ∧ some k_ ≠ (v620 : Value).ownBlock ∧ some k_ ≠ (.slice Ao76 t622.length co76 : Value).ownBlock ∧ k_ ≠ gb598 ∧ k_ ≠ gb617) (fun k_ => ((fun k_ => (P1_ k_ ∨ w.heap.size ≤ k_) ∧ some k_ ≠ (.slice Ao77 t605.length co77 : Value).ownBlock ∧ some k_ ≠ (v620 : Value).ownBlock ∧ some k_ ≠ (.slice Ao76 t622.length co76 : Value).ownBlock ∧ k_ ≠ gb598 ∧ k_ ≠ gb617)) k_ ∧ some k_ ≠ (v631 : Value).ownBlock) rfl rfl ?aO ?aR (fun _ hk => hk) ?aF ?aB ?aS ?aL ?_; (case aR => exact (by skip; exact Kd.V_F (Kd.V_mono (ok' := (fun k_ => ((fun k_ => (P1_ k_ ∨ w.heap.size ≤ k_) ∧ some k_ ≠ (.slice Ao77 t605.length co77 : Value).ownBlock ∧ some k_ ≠ (v620 : Value).ownBlock ∧ some k_ ≠ (.slice Ao76 t622.length co76 : Value).ownBlock ∧ k_ ≠ gb598 ∧ k_ ≠ gb617)) k_ ∧ some k_ ≠ (v631 : Value).ownBlock)) (HO_1.out) (fun k_ hk => ⟨⟨hk.1.1, ⟨hk.1.2.2.1, ⟨hk.1.2.2.2.1, ⟨hk.1.2.2.2.2.1, ⟨hk.1.2.2.2.2.2.1, hk.1.2.2.2.2.2.2⟩⟩⟩⟩⟩, hk.2⟩)))); (case aB => exact (by repeat (first | (with_reducible first | exact HB.out | apply bl | apply pN | apply b1 | refine bs ?_ GE598.out | refine bs ?_ GE617.out) | exact HB.out | exact HBo.out))); (case aF => exact (fun k_ hk => ⟨(.inr (Nat.le_trans (below_size (by repeat (first | (with_reducible first | exact HB.out | apply bl | apply pN | apply b1 | refine bs ?_ GE598.out | refine bs ?_ GE617.out) | exact HB.out | exact HBo.out))) hk)), Kd.fresh' (Kd.R_lt (by (with_reducible repeat (first | apply Kd.R_alloc | apply Kd.R_drewN | apply Kd.R_drew)); exact HO_6.out)) k_ hk, Kd.fresh' (Kd.N_lt (by (with_reducible repeat (first | apply Kd.N_alloc | apply Kd.N_drewN | apply Kd.N_drew)); exact HO621.out)) k_ hk, Kd.fresh' (Kd.R_lt (by (with_reducible repeat (first | apply Kd.R_alloc | apply Kd.R_drewN | apply Kd.R_drew)); exact HO624.out)) k_ hk, Kd.freshB (g := gb598) (o := .cells #[.int .i64 a0_0, .int .i64 a0_1, .int .i64 a0_2, .string a0_3] 23 (0, 0)) (by (with_reducible repeat (first | refine bn ?_ _ | refine bd ?_ | refine ba ?_ _)); exact BK598.out) k_ hk, Kd.freshB (g := gb617) (o := .cells #[.int .i64 a0_0, .int .i64 a0_1, .int .i64 a0_2, .string (a0_3 ++ t618)] 23 (0, 0)) (by (with_reducible repeat (first | refine bn ?_ _ | refine bd ?_ | refine ba ?_ _)); exact BK617.out) k_ hk⟩)); (case aO => exact (by (with_reducible repeat (first | apply Kd.N_alloc | apply Kd.N_drewN | apply Kd.N_drew)); exact HO632.out)); (case aS => exact (below_size (by repeat (first | (with_reducible first | exact HB.out | apply bl | apply pN | apply b1 | refine bs ?_ GE598.out | refine bs ?_ GE617.out) | exact HB.out | exact HBo.out)))); (case aL => have := LMc60.out; omega); intro v634 w82 ho hb hg hat; rw [← Ny633.out] at ho; have n0_ := Am (Kd.V_afterv (ok := (fun k_ => (P1_ k_ ∨ w.heap.size ≤ k_) ∧ some k_ ≠ (.slice Ao81 t602.length co81 : Value).ownBlock ∧ some k_ ≠ (.slice Ao77 t605.length co77 : Value).ownBlock ∧ some k_ ≠ (v620 : Value).ownBlock ∧ some k_ ≠ (.slice Ao76 t622.length co76 : Value).ownBlock ∧ k_ ≠ gb598 ∧ k_ ≠ gb617)) (by (with_reducible repeat (first | apply Kd.V_alloc | apply Kd.V_drewN | apply Kd.V_drew)); exact HO_1.out) hg hat); have n1_ := Am (Kd.N_afterv (ok := (fun k_ => (P1_ k_ ∨ w.heap.size ≤ k_) ∧ some k_ ≠ (.slice Ao77 t605.length co77 : Value).ownBlock ∧ some k_ ≠ (v620 : Value).ownBlock ∧ some k_ ≠ (.slice Ao76 t622.length co76 : Value).ownBlock ∧ k_ ≠ gb598 ∧ k_ ≠ gb617)) (by (with_reducible repeat (first | apply Kd.N_alloc | apply Kd.N_drewN | apply Kd.N_drew)); exact HO_5.out) hg hat); have n2_ := Am (Kd.R_over' (by (with_reducible repeat (first | apply Kd.R_alloc | apply Kd.R_drewN | apply Kd.R_drew)); exact HO_6.out) (Kd.N_typed (by (with_reducible repeat (first | apply Kd.N_alloc | apply Kd.N_drewN | apply Kd.N_drew)); exact HO632.out)) (by decide) hg); have n3_ := Am (blk_grown (g := gb598) (o := .cells #[.int .i64 a0_0, .int .i64 a0_1, .int .i64 a0_2, .string a0_3] 23 (0, 0)) (by (with_reducible repeat (first | refine bn ?_ _ | refine bd ?_ | refine ba ?_ _)); exact BK598.out) hg (Kd.N_ne HO632.out BK598.out (by decide))); have n4_ := Am (blk_grown (g := gb617) (o := .cells #[.int .i64 a0_0, .int .i64 a0_1, .int .i64 a0_2, .string (a0_3 ++ t618)] 23 (0, 0)) (by (with_reducible repeat (first | refine bn ?_ _ | refine bd ?_ | refine ba ?_ _)); exact BK617.out) hg (Kd.N_ne HO632.out BK617.out (by decide))); have n5_ := Am (Kd.N_afterv (ok := (fun k_ => (P1_ k_ ∨ w.heap.size ≤ k_) ∧ some k_ ≠ (.slice Ao81 t602.length co81 : Value).ownBlock ∧ some k_ ≠ (.slice Ao77 t605.length co77 : Value).ownBlock ∧ some k_ ≠ (.slice Ao76 t622.length co76 : Value).ownBlock ∧ k_ ≠ gb598 ∧ k_ ≠ gb617)) (by (with_reducible repeat (first | apply Kd.N_alloc | apply Kd.N_drewN | apply Kd.N_drew)); exact HO621.out) hg hat); have n6_ := Am (Kd.R_over' (by (with_reducible repeat (first | apply Kd.R_alloc | apply Kd.R_drewN | apply Kd.R_drew)); exact HO624.out) (Kd.N_typed (by (with_reducible repeat (first | apply Kd.N_alloc | apply Kd.N_drewN | apply Kd.N_drew)); exact HO632.out)) (by decide) hg); have n7_ := Am (hb); have n8_ := Am (ho); clear HO_1; clear HO_5; clear HO_6; clear BK598; clear BK617; clear HO621; clear HO624; clear HB; clear HO632; have HO_1 := n0_; have HO_5 := n1_; have HO_6 := n2_; have BK598 := n3_; have BK617 := n4_; have HO621 := n5_; have HO624 := n6_; have HB := n7_; have HO635 := n8_; clear n0_ n1_ n2_ n3_ n4_ n5_ n6_ n7_ n8_; clear ho hb hg hat; obtain ⟨Ao83, co83, eo83⟩ := Kd.N_slice HO621.out; subst eo83; obtain ⟨Ao84, co84, eo84⟩ := Kd.N_slice HO635.out; subst eo84) | (go_at_call 17; (with_reducible refine (shuttlecockref04_All.calls k5 _ _ t619 _ _ y633 true _ ?side1 ?side2 ?side3 ?side4 A61.out).mono ?_); (case side1 => repeat (first | exact (Kd.N_reads' HO621.out).2.2 | (with_reducible refine Kd.C_alloc ?_ _) | (with_reducible refine Kd.C_drewN ?_ _) | (with_reducible refine Kd.C_drew ?_))); (case side2 => exact (Kd.N_reads' HO621.out).2.1); (case side3 => repeat (first | exact (Kd.N_reads' HO635.out).2.2 | (with_reducible refine Kd.C_alloc ?_ _) | (with_reducible refine Kd.C_drewN ?_ _) | (with_reducible refine Kd.C_drew ?_))); (case side4 => exact (Kd.N_reads' HO635.out).2.1); rintro e w85 ⟨rfl, hb⟩; have n0_ := Am (Kd.V_below (by (with_reducible repeat (first | apply Kd.V_alloc | apply Kd.V_drewN | apply Kd.V_drew)); exact HO_1.out) hb); have n1_ := Am (Kd.N_below (by (with_reducible repeat (first | apply Kd.N_alloc | apply Kd.N_drewN | apply Kd.N_drew)); exact HO_5.out) hb); have n2_ := Am (Kd.R_below (by (with_reducible repeat (first | apply Kd.R_alloc | apply Kd.R_drewN | apply Kd.R_drew)); exact HO_6.out) hb); have n3_ := Am (Kd.N_below (by (with_reducible repeat (first | apply Kd.N_alloc | apply Kd.N_drewN | apply Kd.N_drew)); exact HO621.out) hb); have n4_ := Am (Kd.R_below (by (with_reducible repeat (first | apply Kd.R_alloc | apply Kd.R_drewN | apply Kd.R_drew)); exact HO624.out) hb); have n5_ := Am (Kd.N_below (by (with_reducible repeat (first | apply Kd.N_alloc | apply Kd.N_drewN | apply Kd.N_drew)); exact HO635.out) hb); have n6_ := Am (blk_below (g := gb598) (o := .cells #[.int .i64 a0_0, .int .i64 a0_1, .int .i64 a0_2, .string a0_3] 23 (0, 0)) (by (with_reducible repeat (first | refine bn ?_ _ | refine bd ?_ | refine ba ?_ _)); exact BK598.out) hb); have n7_ := Am (blk_below (g := gb617) (o := .cells #[.int .i64 a0_0, .int .i64 a0_1, .int .i64 a0_2, .string (a0_3 ++ t618)] 23 (0, 0)) (by (with_reducible repeat (first | refine bn ?_ _ | refine bd ?_ | refine ba ?_ _)); exact BK617.out) hb); have n8_ := Am (below_step (by repeat (first | (with_reducible first | exact HB.out | apply bl | apply pN | apply b1 | refine bs ?_ GE598.out | refine bs ?_ GE617.out) | exact HB.out | exact HBo.out)) hb); clear HO_1; clear HO_5; clear HO_6; clear HO621; clear HO624; clear HO635; clear BK598; clear BK617; clear HB; have HO_1 := n0_; have HO_5 := n1_; have HO_6 := n2_; have HO621 := n3_; have HO624 := n4_; have HO635 := n5_; have BK598 := n6_; have BK617 := n7_; have HB := n8_; clear n0_ n1_ n2_ n3_ n4_ n5_ n6_ n7_ n8_; (try clear hb); (try clear hb2); (try clear hk); (try clear hi); have q86 : ((t605.length : Int) : Int) ≤ ((t622.length : Int) : Int) := of_decide_eq_true (by first | (with_reducible assumption) | assumption); obtain ⟨i086, hi086, _, hsz86, _⟩ := info_parts info3; have hroom86 : t622.length ≤ co76 := (Kd.R_reads' HO624.out).2.1; have hC86 : Kd.F (Kd.int .i64) _ _ Ao76 t622.length t622 := (Kd.V_at (base := w.heap.size) (Kd.V_mono (ok' := (fun k_ => ((((((((P1_ k_ ∨ w.heap.size ≤ k_) ∧ True) ∧ some k_ ≠ (.slice Ao77 t605.length co77 : Value).ownBlock) ∧ some k_ ≠ (.slice Ao81 t602.length co81 : Value).ownBlock) ∧ some k_ ≠ (.slice Ao83 t619.length co83 : Value).ownBlock) ∧ some k_ ≠ (.slice Ao84 y633.length co84 : Value).ownBlock) ∧ k_ ≠ gb598) ∧ k_ ≠ gb617))) (Kd.R_V (Kd.R_types (Kd.R_types (Kd.R_apart' (Kd.R_apart' (Kd.R_apart' (HO624.out) (Kd.N_typed HO_5.out) (by decide)) (Kd.N_typed HO621.out) (by decide)) (Kd.N_typed HO635.out) (by decide)) BK598.out (by decide)) BK617.out (by decide))) (fun k_ hk => ⟨⟨⟨⟨⟨⟨⟨(.inr (hk.1.1.1.1.1.1.1)), trivial⟩, hk.1.1.1.1.1.2⟩, hk.1.1.1.1.2⟩, hk.1.1.1.2⟩, hk.1.1.2⟩, hk.1.2⟩, hk.2⟩))).2.2; have hcut86 := cut_to (P := Try.prog) 29 3 .i64 Try.underlying29 hi086 Ao76 t622.length co76 (t605.length : Int) (of_decide_eq_true (by first | (with_reducible assumption) | assumption)) q86 hroom86; have hr86 := Kd.F_take (m := ((t605.length : Int) : Int).toNat) hC86 (by omega); have hy86 : y637.length = ((t605.length : Int) : Int).toNat := (by rw [Ny637.out, List.length_take]; omega); rw [← Ny637.out] at hr86; rw [← hy86] at hcut86; have HO641 := Am (show Kd.V (Kd.int .i64) 3 _ w.heap.size _ (.slice Ao76 y637.length co76) y637 from Kd.V_mk (by omega) hr86); have HC641 := Am (show y637.length ≤ co76 from by omega); clear hr86 hC86 hroom86 hi086 hsz86; have KY86 := Am hy86; clear hy86; replace q86 := eq_true q86) | (go_at_call 18; (with_reducible refine (shuttlecockref01_Ints.calls k5 _ _ y637 _ _ t605 t642 _ ?side1 ?side2 ?side3 ?side4 A65.out).mono ?_); (case side1 => repeat (first | exact (Kd.V_reads' HO641.out).2.2 | (with_reducible refine Kd.C_alloc ?_ _) | (with_reducible refine Kd.C_drewN ?_ _) | (with_reducible refine Kd.C_drew ?_))); (case side2 => exact (Kd.V_reads' HO641.out).2.1); (case side3 => repeat (first | exact (Kd.R_reads' HO_6.out).2.2 | (with_reducible refine Kd.C_alloc ?_ _) | (with_reducible refine Kd.C_drewN ?_ _) | (with_reducible refine Kd.C_drew ?_))); (case side4 => exact (Kd.R_reads' HO_6.out).2.1); rintro e w' ⟨rfl, ⟨nd, rfl⟩⟩))
                        go_ret
                        exact ⟨by first | rfl | (simp [errW_none, errW_some] <;> rfl) | (simp [*, errW_none, errW_some] <;> rfl) | (simp [Aid.ne_nil, Aid.eq_nil, errW_none, errW_some]; done), by repeat (first | (with_reducible first | exact HB.out | apply bl | apply pN | apply b1 | refine bs ?_ GE598.out | refine bs ?_ GE617.out) | exact HB.out | exact HBo.out)⟩
                       ·
                        rw [if_neg c64] at H
                        exact absurd H (by simp)
                      ·
                       rw [if_neg c63] at H
                       exact absurd H (by simp)
                     ·
                      replace c62 := Bool.eq_false_iff.mpr c62
                      subst c62
                      have H1 : (none) = some r := by rw [if_neg (show ¬ (false = true) by decide)] at H; exact H
                      clear H
                      have H := H1
                      clear H1
                      exact absurd H (by simp)
                    ·
                     rw [if_neg c60] at H
                     exact absurd H (by simp)
                   ·
                    rw [if_neg c59] at H
                    exact absurd H (by simp)
                  ·
                   rw [if_neg c58] at H
                   exact absurd H (by simp)
                 ·
                  rw [if_neg c57] at H
                  have c57b0 : (t626 == 0) = false := beq_eq_false_iff_ne.mpr c57
                  have c57b1 : (t626 != 0) = true := bne_iff_ne.mpr c57
                  by_cases c87 : t626 = 11
                  ·
                   rw [if_pos c87] at H
                   have c87b0 : (t626 == 11) = true := beq_iff_eq.mpr c87
                   have c87b1 : (t626 != 11) = false := bne_eq_false_iff_eq.mpr c87
                   clear c87
                   obtain rfl := Option.some.inj H
                   have hcz88_0 : wr.cell? ⟨gb598, 0, none⟩ = some (.int .i64 a0_0) := (bc BK598.out 0).trans rfl
                   have hcz88_1 : wr.cell? ⟨gb598, 1, none⟩ = some (.int .i64 a0_1) := (bc BK598.out 1).trans rfl
                   have hcz88_2 : wr.cell? ⟨gb598, 2, none⟩ = some (.int .i64 a0_2) := (bc BK598.out 2).trans rfl
                   have hcz88_3 : wr.cell? ⟨gb598, 3, none⟩ = some (.string a0_3) := (bc BK598.out 3).trans rfl
                   have hfz88_0 := bf BK598.out 0
                   have hfz88_1 := bf BK598.out 1
                   have hfz88_2 := bf BK598.out 2
                   have hfz88_3 := bf BK598.out 3
                   try go_wp2_with (first | ((with_reducible refine gate_dst (N := 12) rfl ?_); (try (refine gate_guard (by rfl) ?_; dsimp only)); refine box_event ?hg (N := 12) ?hd (cs := #[.int .i64 0, .int .i64 0, .int .i64 0, .string (⟨#[]⟩ : ByteArray)]) (t := 23) ?hr ?_; (case hd => rfl); (case hg => rfl); (case hr => first | (go_simp; done) | (go_simp; rfl)); intro gb617 hg w89 hbox hb; have n0_ := Am (Kd.V_below (Kd.V_elderB (by (with_reducible repeat (first | apply Kd.V_alloc | apply Kd.V_drewN | apply Kd.V_drew)); exact HO_1.out) gb617 (Nat.le_of_eq hg.symm)) hb); have n1_ := Am (Kd.N_below (Kd.N_elderB (by (with_reducible repeat (first | apply Kd.N_alloc | apply Kd.N_drewN | apply Kd.N_drew)); exact HO_5.out) gb617 (Nat.le_of_eq hg.symm)) hb); have n2_ := Am (Kd.R_below (by (with_reducible repeat (first | apply Kd.R_alloc | apply Kd.R_drewN | apply Kd.R_drew)); exact HO_6.out) hb); have n3_ := Am (blk_below (g := gb598) (o := .cells #[.int .i64 a0_0, .int .i64 a0_1, .int .i64 a0_2, .string a0_3] 23 (0, 0)) (by (with_reducible repeat (first | refine bn ?_ _ | refine bd ?_ | refine ba ?_ _)); exact BK598.out) hb); have n4_ := Am (below_step (by repeat (first | (with_reducible first | exact HB.out | apply bl | apply pN | apply b1 | refine bs ?_ GE598.out) | exact HB.out | exact HBo.out)) hb); have n5_ := Am (hbox); have n6_ := Am ((by rw [hg]; exact (below_size (by repeat (first | (with_reducible first | exact HB.out | apply bl | apply pN | apply b1 | refine bs ?_ GE598.out) | exact HB.out | exact HBo.out))) : w.heap.size ≤ gb617)); have n7_ := Am ((by rw [hg]; exact (below_size (by repeat (first | (with_reducible first | exact HB.out | apply bl | apply pN | apply b1 | refine bs ?_ GE598.out) | exact HB.out | exact HBo.out))) : w.heap.size ≤ gb617)); have n8_ := Am ((by rw [hg]; exact Nat.ne_of_lt (blk_lt (g := gb598) (o := .cells #[.int .i64 a0_0, .int .i64 a0_1, .int .i64 a0_2, .string a0_3] 23 (0, 0)) (by (with_reducible repeat (first | refine bn ?_ _ | refine bd ?_ | refine ba ?_ _)); exact BK598.out)) : gb598 ≠ gb617)); have n9_ := Am ((by rw [hg]; exact Nat.ne_of_gt (blk_lt (g := gb598) (o := .cells #[.int .i64 a0_0, .int .i64 a0_1, .int .i64 a0_2, .string a0_3] 23 (0, 0)) (by (with_reducible repeat (first | refine bn ?_ _ | refine bd ?_ | refine ba ?_ _)); exact BK598.out)) : gb617 ≠ gb598)); clear HO_1; clear HO_5; clear HO_6; clear BK598; clear HB; have HO_1 := n0_; have HO_5 := n1_; have HO_6 := n2_; have BK598 := n3_; have HB := n4_; have BK617 := n5_; have GW617 := n6_; have GE617 := n7_; have NB598_617 := n8_; have NB617_598 := n9_; clear n0_ n1_ n2_ n3_ n4_ n5_ n6_ n7_ n8_ n9_; clear hb hbox hg; have hnb90 := NB617_598.out; have hnc90 := NB598_617.out; have hcz91_0 : w89.cell? ⟨gb617, 0, none⟩ = some (.int .i64 0) := (bc BK617.out 0).trans rfl; have hcz91_1 : w89.cell? ⟨gb617, 1, none⟩ = some (.int .i64 0) := (bc BK617.out 1).trans rfl; have hcz91_2 : w89.cell? ⟨gb617, 2, none⟩ = some (.int .i64 0) := (bc BK617.out 2).trans rfl; have hcz91_3 : w89.cell? ⟨gb617, 3, none⟩ = some (.string (⟨#[]⟩ : ByteArray)) := (bc BK617.out 3).trans rfl; have hfz91_0 := bf BK617.out 0; have hfz91_1 := bf BK617.out 1; have hfz91_2 := bf BK617.out 2; have hfz91_3 := bf BK617.out 3))
                   have n0_ : Aside0 (Kd.V k41 41 ((((w89.setCell ⟨gb617, 0, none⟩ (.int .i64 a0_0)).setCell ⟨gb617, 1, none⟩ (.int .i64 a0_1)).setCell ⟨gb617, 2, none⟩ (.int .i64 a0_2)).setCell ⟨gb617, 3, none⟩ (.string a0_3)) w.heap.size (fun k_ => (P1_ k_ ∨ w.heap.size ≤ k_) ∧ some k_ ≠ (v603 : Value).ownBlock ∧ some k_ ≠ (v606 : Value).ownBlock ∧ k_ ≠ gb598 ∧ k_ ≠ gb617) (.slice A1 l1.length c1) l1) := ⟨by (with_reducible repeat (first | apply Kd.V_alloc | apply Kd.V_drewN | apply Kd.V_drew)); exact Kd.V_mono (Kd.V_far (p := ⟨gb617, 3, none⟩) (Kd.V_far (p := ⟨gb617, 2, none⟩) (Kd.V_far (p := ⟨gb617, 1, none⟩) (Kd.V_far (p := ⟨gb617, 0, none⟩) (Kd.V_mono HO_1.out (fun k_ hk => (⟨hk, hk.2⟩ : _ ∧ k_ ≠ gb617))) (fun _ hk => hk.2) (.int .i64 a0_0)) (fun _ hk => hk.2) (.int .i64 a0_1)) (fun _ hk => hk.2) (.int .i64 a0_2)) (fun _ hk => hk.2) (.string a0_3)) (fun _ hk => ⟨hk.1.1.1, ⟨hk.1.1.2.1, ⟨hk.1.1.2.2.1, ⟨hk.1.1.2.2.2, hk.1.2⟩⟩⟩⟩)⟩
                   have n1_ : Aside0 (Kd.N k41 41 ((((w89.setCell ⟨gb617, 0, none⟩ (.int .i64 a0_0)).setCell ⟨gb617, 1, none⟩ (.int .i64 a0_1)).setCell ⟨gb617, 2, none⟩ (.int .i64 a0_2)).setCell ⟨gb617, 3, none⟩ (.string a0_3)) w.heap.size (fun k_ => (P1_ k_ ∨ w.heap.size ≤ k_) ∧ some k_ ≠ (v606 : Value).ownBlock ∧ k_ ≠ gb598 ∧ k_ ≠ gb617) v603 t602) := ⟨by (with_reducible repeat (first | apply Kd.N_alloc | apply Kd.N_drewN | apply Kd.N_drew)); exact Kd.N_mono (Kd.N_far (p := ⟨gb617, 3, none⟩) (Kd.N_far (p := ⟨gb617, 2, none⟩) (Kd.N_far (p := ⟨gb617, 1, none⟩) (Kd.N_far (p := ⟨gb617, 0, none⟩) (Kd.N_mono HO_5.out (fun k_ hk => (⟨hk, hk.2⟩ : _ ∧ k_ ≠ gb617))) (fun _ hk => hk.2) (.int .i64 a0_0)) (fun _ hk => hk.2) (.int .i64 a0_1)) (fun _ hk => hk.2) (.int .i64 a0_2)) (fun _ hk => hk.2) (.string a0_3)) (fun _ hk => ⟨hk.1.1.1, ⟨hk.1.1.2.1, ⟨hk.1.1.2.2, hk.1.2⟩⟩⟩)⟩
                   have n2_ : Aside0 (Kd.R (Kd.int .i64) 3 ((((w89.setCell ⟨gb617, 0, none⟩ (.int .i64 a0_0)).setCell ⟨gb617, 1, none⟩ (.int .i64 a0_1)).setCell ⟨gb617, 2, none⟩ (.int .i64 a0_2)).setCell ⟨gb617, 3, none⟩ (.string a0_3)) w.heap.size (fun k_ => (w.heap.size ≤ k_)) v606 t605) := ⟨by (with_reducible repeat (first | apply Kd.R_alloc | apply Kd.R_drewN | apply Kd.R_drew)); exact Kd.R_mono (Kd.R_far (p := ⟨gb617, 3, none⟩) (Kd.R_far (p := ⟨gb617, 2, none⟩) (Kd.R_far (p := ⟨gb617, 1, none⟩) (Kd.R_far (p := ⟨gb617, 0, none⟩) (Kd.R_types HO_6.out BK617.out (by decide)) (fun _ hk => hk.2) (.int .i64 a0_0)) (fun _ hk => hk.2) (.int .i64 a0_1)) (fun _ hk => hk.2) (.int .i64 a0_2)) (fun _ hk => hk.2) (.string a0_3)) (fun _ hk => hk.1)⟩
                   have n3_ : Aside0 (((((w89.setCell ⟨gb617, 0, none⟩ (.int .i64 a0_0)).setCell ⟨gb617, 1, none⟩ (.int .i64 a0_1)).setCell ⟨gb617, 2, none⟩ (.int .i64 a0_2)).setCell ⟨gb617, 3, none⟩ (.string a0_3)).heap[gb598]? = some (.cells #[.int .i64 a0_0, .int .i64 a0_1, .int .i64 a0_2, .string a0_3] 23 (0, 0))) := ⟨by (with_reducible repeat (first | refine bn ?_ _ | refine bd ?_ | refine ba ?_ _)); refine blk_far ?_ NB598_617.out _; (with_reducible repeat (first | refine bn ?_ _ | refine bd ?_ | refine ba ?_ _)); refine blk_far ?_ NB598_617.out _; (with_reducible repeat (first | refine bn ?_ _ | refine bd ?_ | refine ba ?_ _)); refine blk_far ?_ NB598_617.out _; (with_reducible repeat (first | refine bn ?_ _ | refine bd ?_ | refine ba ?_ _)); refine blk_far ?_ NB598_617.out _; (with_reducible repeat (first | refine bn ?_ _ | refine bd ?_ | refine ba ?_ _)); exact BK598.out⟩
                   have n4_ : Aside0 (((((w89.setCell ⟨gb617, 0, none⟩ (.int .i64 a0_0)).setCell ⟨gb617, 1, none⟩ (.int .i64 a0_1)).setCell ⟨gb617, 2, none⟩ (.int .i64 a0_2)).setCell ⟨gb617, 3, none⟩ (.string a0_3)).heap[gb617]? = some (.cells #[.int .i64 a0_0, .int .i64 a0_1, .int .i64 a0_2, .string a0_3] 23 (0, 0))) := ⟨by (with_reducible repeat (first | refine bn ?_ _ | refine bd ?_ | refine ba ?_ _)); refine blk_put (cs := #[.int .i64 a0_0, .int .i64 a0_1, .int .i64 a0_2, .string (⟨#[]⟩ : ByteArray)]) ?_ 3 _ rfl; (with_reducible repeat (first | refine bn ?_ _ | refine bd ?_ | refine ba ?_ _)); refine blk_put (cs := #[.int .i64 a0_0, .int .i64 a0_1, .int .i64 0, .string (⟨#[]⟩ : ByteArray)]) ?_ 2 _ rfl; (with_reducible repeat (first | refine bn ?_ _ | refine bd ?_ | refine ba ?_ _)); refine blk_put (cs := #[.int .i64 a0_0, .int .i64 0, .int .i64 0, .string (⟨#[]⟩ : ByteArray)]) ?_ 1 _ rfl; (with_reducible repeat (first | refine bn ?_ _ | refine bd ?_ | refine ba ?_ _)); refine blk_put (cs := #[.int .i64 0, .int .i64 0, .int .i64 0, .string (⟨#[]⟩ : ByteArray)]) ?_ 0 _ rfl; (with_reducible repeat (first | refine bn ?_ _ | refine bd ?_ | refine ba ?_ _)); exact BK617.out⟩
                   have n5_ : Aside0 (Below w.heap.size w ((((w89.setCell ⟨gb617, 0, none⟩ (.int .i64 a0_0)).setCell ⟨gb617, 1, none⟩ (.int .i64 a0_1)).setCell ⟨gb617, 2, none⟩ (.int .i64 a0_2)).setCell ⟨gb617, 3, none⟩ (.string a0_3))) := ⟨by repeat (first | (with_reducible first | exact HB.out | apply bl | apply pN | apply b1 | refine bs ?_ GE598.out | refine bs ?_ GE617.out) | exact HB.out | exact HBo.out)⟩
                   (try clear HO_1)
                   (try clear HO_5)
                   (try clear HO_6)
                   (try clear BK598)
                   (try clear BK617)
                   (try clear HB)
                   generalize ((((w89.setCell ⟨gb617, 0, none⟩ (.int .i64 a0_0)).setCell ⟨gb617, 1, none⟩ (.int .i64 a0_1)).setCell ⟨gb617, 2, none⟩ (.int .i64 a0_2)).setCell ⟨gb617, 3, none⟩ (.string a0_3)) = w92 at n0_ n1_ n2_ n3_ n4_ n5_ ⊢
                   have HO_1 := n0_
                   have HO_5 := n1_
                   have HO_6 := n2_
                   have BK598 := n3_
                   have BK617 := n4_
                   have HB := n5_
                   clear n0_ n1_ n2_ n3_ n4_ n5_
                   have n0_ := Am (Kd.V_drew HO_1.out)
                   have n1_ := Am (Kd.N_drew HO_5.out)
                   have n2_ := Am (Kd.R_drew HO_6.out)
                   have n3_ := Am (bd BK598.out)
                   have n4_ := Am (bd BK617.out)
                   have n5_ := Am (b1 HB.out)
                   clear HO_1
                   clear HO_5
                   clear HO_6
                   clear BK598
                   clear BK617
                   clear HB
                   have HO_1 := n0_
                   have HO_5 := n1_
                   have HO_6 := n2_
                   have BK598 := n3_
                   have BK617 := n4_
                   have HB := n5_
                   clear n0_ n1_ n2_ n3_ n4_ n5_
                   refine start_ (n := 7) (S := fun w' => w'.cell? ⟨gb598, 0, none⟩ = some (.int .i64 a0_0) ∧ w'.cell? ⟨gb598, 1, none⟩ = some (.int .i64 a0_1) ∧ w'.cell? ⟨gb598, 2, none⟩ = some (.int .i64 a0_2) ∧ w'.cell? ⟨gb598, 3, none⟩ = some (.string a0_3)) (ds := []) q19_19 (by kernel_rfl) rfl rfl ⟨(bc BK598.out 0).trans rfl, (bc BK598.out 1).trans rfl, (bc BK598.out 2).trans rfl, (bc BK598.out 3).trans rfl⟩ (fun hHeld => ?_)
                   generalize w92.drew = w93 at HO_1 HO_5 HO_6 BK598 BK617 HB hHeld ⊢
                   refine pure_ (i := 0) (N := some 116) (v := ?_) (a' := ?_) q19_20 rfl rfl (by kernel_rfl) (fun _ _ _ h => h) (Or.inl ⟨by rfl, ?_⟩) ?_ ?_
                   rotate_left
                   ·
                    intro w'
                    go_simp
                    with_reducible rfl
                   rotate_left
                   ·
                    simp only [Act.put, sI, sZ, sS, i64_w, i32_w]
                    rfl
                   refine pure_ (i := 2) (N := some 118) (v := ?_) (a' := ?_) q19_21 rfl rfl (by kernel_rfl) (fun _ _ _ h => h) (Or.inl ⟨by rfl, ?_⟩) ?_ ?_
                   rotate_left
                   ·
                    intro w'
                    go_simp
                    with_reducible rfl
                   rotate_left
                   ·
                    simp only [Act.put, sI, sZ, sS, i64_w, i32_w]
                    rfl
                   refine take_ (i := 1) (N := some 117) (v := ?_) (a' := ?_) q19_22 rfl rfl (by kernel_rfl) (fun _ _ _ h => h) (Or.inl ⟨by rfl, ?_⟩) hHeld ?_ ?_
                   rotate_left
                   ·
                    rintro w' ⟨s0, s1, s2, s3⟩
                    go_simp
                    with_reducible rfl
                   rotate_left
                   ·
                    simp only [Act.put, sI, sZ, sS, i64_w, i32_w]
                    rfl
                   refine one_ (i := 3) (N := some 119) q19_23 rfl rfl (by kernel_rfl) (by decide) (fun K hK => ?_)
                   refine goes_ Try.func20 (by kernel_rfl) rfl #[.slice A1 l1.length c1] (by rfl) rfl rfl (by (try simp only [List.map_toArray, List.map_cons, List.map_nil]); first | done | rfl | (simp only [List.length_drop, List.length_take]; rfl)) ?_
                   with_reducible refine (shuttlecockref04_Bytes.calls k5 _ _ l1 t618 _ ?side1 ?side2 A54.out).mono ?_
                   (case side1 => repeat (first | exact (Kd.V_reads' HO_1.out).2.2 | (with_reducible refine Kd.C_alloc ?_ _) | (with_reducible refine Kd.C_drewN ?_ _) | (with_reducible refine Kd.C_drew ?_)))
                   (case side2 => exact (Kd.V_reads' HO_1.out).2.1)
                   rintro e w94 ⟨rfl, hb⟩
                   refine ⟨_, rfl, ?_⟩
                   have n0_ := Am (Kd.V_below (by (with_reducible repeat (first | apply Kd.V_alloc | apply Kd.V_drewN | apply Kd.V_drew)); exact HO_1.out) hb)
                   have n1_ := Am (Kd.N_below (by (with_reducible repeat (first | apply Kd.N_alloc | apply Kd.N_drewN | apply Kd.N_drew)); exact HO_5.out) hb)
                   have n2_ := Am (Kd.R_below (by (with_reducible repeat (first | apply Kd.R_alloc | apply Kd.R_drewN | apply Kd.R_drew)); exact HO_6.out) hb)
                   have n3_ := Am (blk_below (g := gb598) (o := .cells #[.int .i64 a0_0, .int .i64 a0_1, .int .i64 a0_2, .string a0_3] 23 (0, 0)) (by (with_reducible repeat (first | refine bn ?_ _ | refine bd ?_ | refine ba ?_ _)); exact BK598.out) hb)
                   have n4_ := Am (blk_below (g := gb617) (o := .cells #[.int .i64 a0_0, .int .i64 a0_1, .int .i64 a0_2, .string a0_3] 23 (0, 0)) (by (with_reducible repeat (first | refine bn ?_ _ | refine bd ?_ | refine ba ?_ _)); exact BK617.out) hb)
                   have n5_ := Am (below_step (by repeat (first | (with_reducible first | exact HB.out | apply bl | apply pN | apply b1 | refine bs ?_ GE598.out | refine bs ?_ GE617.out) | exact HB.out | exact HBo.out)) hb)
                   clear HO_1
                   clear HO_5
                   clear HO_6
                   clear BK598
                   clear BK617
                   clear HB
                   have HO_1 := n0_
                   have HO_5 := n1_
                   have HO_6 := n2_
                   have BK598 := n3_
                   have BK617 := n4_
                   have HB := n5_
                   clear n0_ n1_ n2_ n3_ n4_ n5_
                   (try clear hb)
                   (try clear hb2)
                   (try clear hk)
                   (try clear hi)
                   refine hK.out _ _ ⟨(bc BK598.out 0).trans rfl, (bc BK598.out 1).trans rfl, (bc BK598.out 2).trans rfl, (bc BK598.out 3).trans rfl⟩ (fun hHeld => ?_)
                   clear hK K
                   refine norm_ (a' := ?_) ?_ ?_
                   rotate_left
                   ·
                    show Act.put _ (some 119) _ = _
                    simp only [Act.put, sI, sZ, sS, i64_w, i32_w]
                    rfl
                   refine pure_ (i := 4) (N := some 120) (v := ?_) (a' := ?_) q19_24 rfl rfl (by kernel_rfl) (fun _ _ _ h => h) (Or.inl ⟨by rfl, ?_⟩) ?_ ?_
                   rotate_left
                   ·
                    intro w'
                    go_simp
                    with_reducible rfl
                   rotate_left
                   ·
                    simp only [Act.put, sI, sZ, sS, i64_w, i32_w]
                    rfl
                   refine pure_ (i := 5) (N := some 121) (v := ?_) (a' := ?_) q19_25 rfl rfl (by kernel_rfl) (fun _ _ _ h => h) (Or.inl ⟨by rfl, ?_⟩) ?_ ?_
                   rotate_left
                   ·
                    intro w'
                    go_simp
                    with_reducible rfl
                   rotate_left
                   ·
                    simp only [Act.put, sI, sZ, sS, i64_w, i32_w]
                    rfl
                   refine one_ (i := 6) (N := none) q19_26 rfl rfl (by kernel_rfl) (by decide) (fun K hK => ?_)
                   have hs95 : w94.cell? ⟨gb617, 3, none⟩ = some (.string a0_3) := (bc BK617.out 3).trans rfl
                   have hfs95 := bf BK617.out 3
                   have hns95_0 := NB598_617.out
                   have hms95_0 := NB617_598.out
                   refine skip_ (w1 := ?_) (by rfl) rfl ?_ ?_
                   rotate_left
                   ·
                    go_simp
                    rfl
                   refine hK.out _ _ ⟨((cell_far (p := ⟨gb617, _, none⟩) NB598_617.out _).trans (hHeld.1)), ((cell_far (p := ⟨gb617, _, none⟩) NB598_617.out _).trans (hHeld.2.1)), ((cell_far (p := ⟨gb617, _, none⟩) NB598_617.out _).trans (hHeld.2.2.1)), ((cell_far (p := ⟨gb617, _, none⟩) NB598_617.out _).trans (hHeld.2.2.2))⟩ (fun hHeld => ?_)
                   clear hK K
                   refine done_ (by kernel_rfl) ?_
                   have hcz96_0 : w94.cell? ⟨gb617, 0, none⟩ = some (.int .i64 a0_0) := (bc BK617.out 0).trans rfl
                   have hcz96_1 : w94.cell? ⟨gb617, 1, none⟩ = some (.int .i64 a0_1) := (bc BK617.out 1).trans rfl
                   have hcz96_2 : w94.cell? ⟨gb617, 2, none⟩ = some (.int .i64 a0_2) := (bc BK617.out 2).trans rfl
                   have hcz96_3 : w94.cell? ⟨gb617, 3, none⟩ = some (.string a0_3) := (bc BK617.out 3).trans rfl
                   have hfz96_0 := bf BK617.out 0
                   have hfz96_1 := bf BK617.out 1
                   have hfz96_2 := bf BK617.out 2
                   have hfz96_3 := bf BK617.out 3
                   try go_wp2_with (first | ((with_reducible refine gate_callee (f := 11) rfl ?_); refine goesL_ (some 124) rfl rfl Try.func11 (by kernel_rfl) rfl #[.agg #[.int .i64 a0_0, .int .i64 a0_1, .int .i64 a0_2, .string (a0_3 ++ t618)]] rfl (by (try simp only [List.map_toArray, List.map_cons, List.map_nil]); first | done | rfl | (simp only [List.length_drop, List.length_take]; rfl)) ?_; (with_reducible refine (batch_Events.calls k5 a0_0 a0_1 a0_2 (a0_3 ++ t618) t619 t622 t625 t626 _ A56.out).mono ?_); rintro e w97 ⟨v620, v623, rfl, ho0, ho1, hb⟩; refine ⟨_, rfl, ?_⟩; have n0_ := Am (Kd.V_mono (Kd.V_told (Kd.V_told (Kd.V_old (by (with_reducible repeat (first | apply Kd.V_alloc | apply Kd.V_drewN | apply Kd.V_drew)); exact (Kd.V_mono (Kd.V_far (p := ⟨gb617, 3, none⟩) (Kd.V_mono HO_1.out (fun k_ hk => (⟨hk, hk.2.2.2.2⟩ : _ ∧ k_ ≠ gb617))) (fun _ hk => hk.2) (.string (a0_3 ++ t618))) (fun _ h_ => h_.1))) hb) (Kd.S_base ho0)) (Kd.R_base ho1)) (fun _ h_ => h_.1)); have n1_ := Am (Kd.N_mono (Kd.N_told (Kd.N_told (Kd.N_old (by (with_reducible repeat (first | apply Kd.N_alloc | apply Kd.N_drewN | apply Kd.N_drew)); exact (Kd.N_mono (Kd.N_far (p := ⟨gb617, 3, none⟩) (Kd.N_mono HO_5.out (fun k_ hk => (⟨hk, hk.2.2.2⟩ : _ ∧ k_ ≠ gb617))) (fun _ hk => hk.2) (.string (a0_3 ++ t618))) (fun _ h_ => h_.1))) hb) (Kd.S_base ho0)) (Kd.R_base ho1)) (fun _ h_ => h_.1)); have n2_ := Am (Kd.R_elder' (by (with_reducible repeat (first | apply Kd.R_alloc | apply Kd.R_drewN | apply Kd.R_drew)); exact (Kd.R_mono (Kd.R_far (p := ⟨gb617, 3, none⟩) (Kd.R_types HO_6.out BK617.out (by decide)) (fun _ hk => hk.2) (.string (a0_3 ++ t618))) (fun _ h_ => h_.1))) (Kd.R_base ho1) hb); have n3_ := Am (Kd.N_lower (Kd.N_mono (ok' := fun k_ => (P1_ k_ ∨ w.heap.size ≤ k_) ∧ some k_ ≠ (v623 : Value).ownBlock ∧ some k_ ≠ (v603 : Value).ownBlock ∧ some k_ ≠ (v606 : Value).ownBlock ∧ k_ ≠ gb598 ∧ k_ ≠ gb617) (Kd.S_N (Kd.S_bound ho0)) (fun k_ hk_ => ⟨(.inr (Nat.le_trans (below_size (by repeat (first | (with_reducible first | exact HB.out | apply bl | apply pN | apply b1 | refine bs ?_ GE598.out | refine bs ?_ GE617.out) | exact HB.out | exact HBo.out))) hk_.2.1)), hk_.1, (Kd.fresh' (Kd.N_lt (by (with_reducible repeat (first | apply Kd.N_alloc | apply Kd.N_drewN | apply Kd.N_drew)); exact (Kd.N_mono (Kd.N_far (p := ⟨gb617, 3, none⟩) (Kd.N_mono HO_5.out (fun k_ hk => (⟨hk, hk.2.2.2⟩ : _ ∧ k_ ≠ gb617))) (fun _ hk => hk.2) (.string (a0_3 ++ t618))) (fun _ h_ => h_.1)))) k_ hk_.2.1), (Kd.fresh' (Kd.R_lt (by (with_reducible repeat (first | apply Kd.R_alloc | apply Kd.R_drewN | apply Kd.R_drew)); exact (Kd.R_mono (Kd.R_far (p := ⟨gb617, 3, none⟩) (Kd.R_types HO_6.out BK617.out (by decide)) (fun _ hk => hk.2) (.string (a0_3 ++ t618))) (fun _ h_ => h_.1)))) k_ hk_.2.1), (Kd.freshB (g := gb598) (o := .cells #[.int .i64 a0_0, .int .i64 a0_1, .int .i64 a0_2, .string a0_3] 23 (0, 0)) (by (with_reducible repeat (first | refine bn ?_ _ | refine bd ?_ | refine ba ?_ _)); refine blk_far ?_ NB598_617.out _; (with_reducible repeat (first | refine bn ?_ _ | refine bd ?_ | refine ba ?_ _)); exact BK598.out) k_ hk_.2.1), (Kd.freshB (g := gb617) (o := .cells #[.int .i64 a0_0, .int .i64 a0_1, .int .i64 a0_2, .string (a0_3 ++ t618)] 23 (0, 0)) (by (with_reducible repeat (first | refine bn ?_ _ | refine bd ?_ | refine ba ?_ _)); refine blk_put (cs := #[.int .i64 a0_0, .int .i64 a0_1, .int .i64 a0_2, .string a0_3]) ?_ 3 _ rfl; (with_reducible repeat (first | refine bn ?_ _ | refine bd ?_ | refine ba ?_ _)); exact BK617.out) k_ hk_.2.1)⟩)) (below_size (by repeat (first | (with_reducible first | exact HB.out | apply bl | apply pN | apply b1 | refine bs ?_ GE598.out | refine bs ?_ GE617.out) | exact HB.out | exact HBo.out)))); have n4_ := Am (Kd.R_lower (Kd.R_new' (Kd.R_newM (M := fun k_ => (w.heap.size ≤ k_)) ho1 (below_size (by repeat (first | (with_reducible first | exact HB.out | apply bl | apply pN | apply b1 | refine bs ?_ GE598.out | refine bs ?_ GE617.out) | exact HB.out | exact HBo.out))) (fun k_ h_ => h_)) (Kd.R_lt (by (with_reducible repeat (first | apply Kd.R_alloc | apply Kd.R_drewN | apply Kd.R_drew)); exact (Kd.R_mono (Kd.R_far (p := ⟨gb617, 3, none⟩) (Kd.R_types HO_6.out BK617.out (by decide)) (fun _ hk => hk.2) (.string (a0_3 ++ t618))) (fun _ h_ => h_.1))))) (below_size (by repeat (first | (with_reducible first | exact HB.out | apply bl | apply pN | apply b1 | refine bs ?_ GE598.out | refine bs ?_ GE617.out) | exact HB.out | exact HBo.out)))); have n5_ := Am (blk_below (g := gb598) (o := .cells #[.int .i64 a0_0, .int .i64 a0_1, .int .i64 a0_2, .string a0_3] 23 (0, 0)) (by (with_reducible repeat (first | refine bn ?_ _ | refine bd ?_ | refine ba ?_ _)); refine blk_far ?_ NB598_617.out _; (with_reducible repeat (first | refine bn ?_ _ | refine bd ?_ | refine ba ?_ _)); exact BK598.out) hb); have n6_ := Am (blk_below (g := gb617) (o := .cells #[.int .i64 a0_0, .int .i64 a0_1, .int .i64 a0_2, .string (a0_3 ++ t618)] 23 (0, 0)) (by (with_reducible repeat (first | refine bn ?_ _ | refine bd ?_ | refine ba ?_ _)); refine blk_put (cs := #[.int .i64 a0_0, .int .i64 a0_1, .int .i64 a0_2, .string a0_3]) ?_ 3 _ rfl; (with_reducible repeat (first | refine bn ?_ _ | refine bd ?_ | refine ba ?_ _)); exact BK617.out) hb); have n7_ := Am (below_step (by repeat (first | (with_reducible first | exact HB.out | apply bl | apply pN | apply b1 | refine bs ?_ GE598.out | refine bs ?_ GE617.out) | exact HB.out | exact HBo.out)) hb); clear HO_1; clear HO_5; clear HO_6; clear BK598; clear BK617; clear HB; have HO_1 := n0_; have HO_5 := n1_; have HO_6 := n2_; have HO621 := n3_; have HO624 := n4_; have BK598 := n5_; have BK617 := n6_; have HB := n7_; clear n0_ n1_ n2_ n3_ n4_ n5_ n6_ n7_; (try clear hb); (try clear hb2); (try clear hk); (try clear hi); (try clear ho0); (try clear ho1)))
                   go_ret
                   exact ⟨by first | rfl | (simp [errW_none, errW_some] <;> rfl) | (simp [*, errW_none, errW_some] <;> rfl) | (simp [Aid.ne_nil, Aid.eq_nil, errW_none, errW_some]; done), by repeat (first | (with_reducible first | exact HB.out | apply bl | apply pN | apply b1 | refine bs ?_ GE598.out | refine bs ?_ GE617.out) | exact HB.out | exact HBo.out)⟩
                  ·
                   rw [if_neg c87] at H
                   have c87b0 : (t626 == 11) = false := beq_eq_false_iff_ne.mpr c87
                   have c87b1 : (t626 != 11) = true := bne_iff_ne.mpr c87
                   replace H := ob H
                   obtain ⟨t643, A980, H⟩ := H
                   replace H : (some (!t643)) = some r := H
                   have A98 := Am A980
                   clear A980
                   obtain rfl := Option.some.inj H
                   have hcz99_0 : wr.cell? ⟨gb598, 0, none⟩ = some (.int .i64 a0_0) := (bc BK598.out 0).trans rfl
                   have hcz99_1 : wr.cell? ⟨gb598, 1, none⟩ = some (.int .i64 a0_1) := (bc BK598.out 1).trans rfl
                   have hcz99_2 : wr.cell? ⟨gb598, 2, none⟩ = some (.int .i64 a0_2) := (bc BK598.out 2).trans rfl
                   have hcz99_3 : wr.cell? ⟨gb598, 3, none⟩ = some (.string a0_3) := (bc BK598.out 3).trans rfl
                   have hfz99_0 := bf BK598.out 0
                   have hfz99_1 := bf BK598.out 1
                   have hfz99_2 := bf BK598.out 2
                   have hfz99_3 := bf BK598.out 3
                   try go_wp2_with (first | ((with_reducible refine gate_dst (N := 12) rfl ?_); (try (refine gate_guard (by rfl) ?_; dsimp only)); refine box_event ?hg (N := 12) ?hd (cs := #[.int .i64 0, .int .i64 0, .int .i64 0, .string (⟨#[]⟩ : ByteArray)]) (t := 23) ?hr ?_; (case hd => rfl); (case hg => rfl); (case hr => first | (go_simp; done) | (go_simp; rfl)); intro gb617 hg w100 hbox hb; have n0_ := Am (Kd.V_below (Kd.V_elderB (by (with_reducible repeat (first | apply Kd.V_alloc | apply Kd.V_drewN | apply Kd.V_drew)); exact HO_1.out) gb617 (Nat.le_of_eq hg.symm)) hb); have n1_ := Am (Kd.N_below (Kd.N_elderB (by (with_reducible repeat (first | apply Kd.N_alloc | apply Kd.N_drewN | apply Kd.N_drew)); exact HO_5.out) gb617 (Nat.le_of_eq hg.symm)) hb); have n2_ := Am (Kd.R_below (by (with_reducible repeat (first | apply Kd.R_alloc | apply Kd.R_drewN | apply Kd.R_drew)); exact HO_6.out) hb); have n3_ := Am (blk_below (g := gb598) (o := .cells #[.int .i64 a0_0, .int .i64 a0_1, .int .i64 a0_2, .string a0_3] 23 (0, 0)) (by (with_reducible repeat (first | refine bn ?_ _ | refine bd ?_ | refine ba ?_ _)); exact BK598.out) hb); have n4_ := Am (below_step (by repeat (first | (with_reducible first | exact HB.out | apply bl | apply pN | apply b1 | refine bs ?_ GE598.out) | exact HB.out | exact HBo.out)) hb); have n5_ := Am (hbox); have n6_ := Am ((by rw [hg]; exact (below_size (by repeat (first | (with_reducible first | exact HB.out | apply bl | apply pN | apply b1 | refine bs ?_ GE598.out) | exact HB.out | exact HBo.out))) : w.heap.size ≤ gb617)); have n7_ := Am ((by rw [hg]; exact (below_size (by repeat (first | (with_reducible first | exact HB.out | apply bl | apply pN | apply b1 | refine bs ?_ GE598.out) | exact HB.out | exact HBo.out))) : w.heap.size ≤ gb617)); have n8_ := Am ((by rw [hg]; exact Nat.ne_of_lt (blk_lt (g := gb598) (o := .cells #[.int .i64 a0_0, .int .i64 a0_1, .int .i64 a0_2, .string a0_3] 23 (0, 0)) (by (with_reducible repeat (first | refine bn ?_ _ | refine bd ?_ | refine ba ?_ _)); exact BK598.out)) : gb598 ≠ gb617)); have n9_ := Am ((by rw [hg]; exact Nat.ne_of_gt (blk_lt (g := gb598) (o := .cells #[.int .i64 a0_0, .int .i64 a0_1, .int .i64 a0_2, .string a0_3] 23 (0, 0)) (by (with_reducible repeat (first | refine bn ?_ _ | refine bd ?_ | refine ba ?_ _)); exact BK598.out)) : gb617 ≠ gb598)); clear HO_1; clear HO_5; clear HO_6; clear BK598; clear HB; have HO_1 := n0_; have HO_5 := n1_; have HO_6 := n2_; have BK598 := n3_; have HB := n4_; have BK617 := n5_; have GW617 := n6_; have GE617 := n7_; have NB598_617 := n8_; have NB617_598 := n9_; clear n0_ n1_ n2_ n3_ n4_ n5_ n6_ n7_ n8_ n9_; clear hb hbox hg; have hnb101 := NB617_598.out; have hnc101 := NB598_617.out; have hcz102_0 : w100.cell? ⟨gb617, 0, none⟩ = some (.int .i64 0) := (bc BK617.out 0).trans rfl; have hcz102_1 : w100.cell? ⟨gb617, 1, none⟩ = some (.int .i64 0) := (bc BK617.out 1).trans rfl; have hcz102_2 : w100.cell? ⟨gb617, 2, none⟩ = some (.int .i64 0) := (bc BK617.out 2).trans rfl; have hcz102_3 : w100.cell? ⟨gb617, 3, none⟩ = some (.string (⟨#[]⟩ : ByteArray)) := (bc BK617.out 3).trans rfl; have hfz102_0 := bf BK617.out 0; have hfz102_1 := bf BK617.out 1; have hfz102_2 := bf BK617.out 2; have hfz102_3 := bf BK617.out 3))
                   have n0_ : Aside0 (Kd.V k41 41 ((((w100.setCell ⟨gb617, 0, none⟩ (.int .i64 a0_0)).setCell ⟨gb617, 1, none⟩ (.int .i64 a0_1)).setCell ⟨gb617, 2, none⟩ (.int .i64 a0_2)).setCell ⟨gb617, 3, none⟩ (.string a0_3)) w.heap.size (fun k_ => (P1_ k_ ∨ w.heap.size ≤ k_) ∧ some k_ ≠ (v603 : Value).ownBlock ∧ some k_ ≠ (v606 : Value).ownBlock ∧ k_ ≠ gb598 ∧ k_ ≠ gb617) (.slice A1 l1.length c1) l1) := ⟨by (with_reducible repeat (first | apply Kd.V_alloc | apply Kd.V_drewN | apply Kd.V_drew)); exact Kd.V_mono (Kd.V_far (p := ⟨gb617, 3, none⟩) (Kd.V_far (p := ⟨gb617, 2, none⟩) (Kd.V_far (p := ⟨gb617, 1, none⟩) (Kd.V_far (p := ⟨gb617, 0, none⟩) (Kd.V_mono HO_1.out (fun k_ hk => (⟨hk, hk.2⟩ : _ ∧ k_ ≠ gb617))) (fun _ hk => hk.2) (.int .i64 a0_0)) (fun _ hk => hk.2) (.int .i64 a0_1)) (fun _ hk => hk.2) (.int .i64 a0_2)) (fun _ hk => hk.2) (.string a0_3)) (fun _ hk => ⟨hk.1.1.1, ⟨hk.1.1.2.1, ⟨hk.1.1.2.2.1, ⟨hk.1.1.2.2.2, hk.1.2⟩⟩⟩⟩)⟩
                   have n1_ : Aside0 (Kd.N k41 41 ((((w100.setCell ⟨gb617, 0, none⟩ (.int .i64 a0_0)).setCell ⟨gb617, 1, none⟩ (.int .i64 a0_1)).setCell ⟨gb617, 2, none⟩ (.int .i64 a0_2)).setCell ⟨gb617, 3, none⟩ (.string a0_3)) w.heap.size (fun k_ => (P1_ k_ ∨ w.heap.size ≤ k_) ∧ some k_ ≠ (v606 : Value).ownBlock ∧ k_ ≠ gb598 ∧ k_ ≠ gb617) v603 t602) := ⟨by (with_reducible repeat (first | apply Kd.N_alloc | apply Kd.N_drewN | apply Kd.N_drew)); exact Kd.N_mono (Kd.N_far (p := ⟨gb617, 3, none⟩) (Kd.N_far (p := ⟨gb617, 2, none⟩) (Kd.N_far (p := ⟨gb617, 1, none⟩) (Kd.N_far (p := ⟨gb617, 0, none⟩) (Kd.N_mono HO_5.out (fun k_ hk => (⟨hk, hk.2⟩ : _ ∧ k_ ≠ gb617))) (fun _ hk => hk.2) (.int .i64 a0_0)) (fun _ hk => hk.2) (.int .i64 a0_1)) (fun _ hk => hk.2) (.int .i64 a0_2)) (fun _ hk => hk.2) (.string a0_3)) (fun _ hk => ⟨hk.1.1.1, ⟨hk.1.1.2.1, ⟨hk.1.1.2.2, hk.1.2⟩⟩⟩)⟩
                   have n2_ : Aside0 (Kd.R (Kd.int .i64) 3 ((((w100.setCell ⟨gb617, 0, none⟩ (.int .i64 a0_0)).setCell ⟨gb617, 1, none⟩ (.int .i64 a0_1)).setCell ⟨gb617, 2, none⟩ (.int .i64 a0_2)).setCell ⟨gb617, 3, none⟩ (.string a0_3)) w.heap.size (fun k_ => (w.heap.size ≤ k_)) v606 t605) := ⟨by (with_reducible repeat (first | apply Kd.R_alloc | apply Kd.R_drewN | apply Kd.R_drew)); exact Kd.R_mono (Kd.R_far (p := ⟨gb617, 3, none⟩) (Kd.R_far (p := ⟨gb617, 2, none⟩) (Kd.R_far (p := ⟨gb617, 1, none⟩) (Kd.R_far (p := ⟨gb617, 0, none⟩) (Kd.R_types HO_6.out BK617.out (by decide)) (fun _ hk => hk.2) (.int .i64 a0_0)) (fun _ hk => hk.2) (.int .i64 a0_1)) (fun _ hk => hk.2) (.int .i64 a0_2)) (fun _ hk => hk.2) (.string a0_3)) (fun _ hk => hk.1)⟩
                   have n3_ : Aside0 (((((w100.setCell ⟨gb617, 0, none⟩ (.int .i64 a0_0)).setCell ⟨gb617, 1, none⟩ (.int .i64 a0_1)).setCell ⟨gb617, 2, none⟩ (.int .i64 a0_2)).setCell ⟨gb617, 3, none⟩ (.string a0_3)).heap[gb598]? = some (.cells #[.int .i64 a0_0, .int .i64 a0_1, .int .i64 a0_2, .string a0_3] 23 (0, 0))) := ⟨by (with_reducible repeat (first | refine bn ?_ _ | refine bd ?_ | refine ba ?_ _)); refine blk_far ?_ NB598_617.out _; (with_reducible repeat (first | refine bn ?_ _ | refine bd ?_ | refine ba ?_ _)); refine blk_far ?_ NB598_617.out _; (with_reducible repeat (first | refine bn ?_ _ | refine bd ?_ | refine ba ?_ _)); refine blk_far ?_ NB598_617.out _; (with_reducible repeat (first | refine bn ?_ _ | refine bd ?_ | refine ba ?_ _)); refine blk_far ?_ NB598_617.out _; (with_reducible repeat (first | refine bn ?_ _ | refine bd ?_ | refine ba ?_ _)); exact BK598.out⟩
                   have n4_ : Aside0 (((((w100.setCell ⟨gb617, 0, none⟩ (.int .i64 a0_0)).setCell ⟨gb617, 1, none⟩ (.int .i64 a0_1)).setCell ⟨gb617, 2, none⟩ (.int .i64 a0_2)).setCell ⟨gb617, 3, none⟩ (.string a0_3)).heap[gb617]? = some (.cells #[.int .i64 a0_0, .int .i64 a0_1, .int .i64 a0_2, .string a0_3] 23 (0, 0))) := ⟨by (with_reducible repeat (first | refine bn ?_ _ | refine bd ?_ | refine ba ?_ _)); refine blk_put (cs := #[.int .i64 a0_0, .int .i64 a0_1, .int .i64 a0_2, .string (⟨#[]⟩ : ByteArray)]) ?_ 3 _ rfl; (with_reducible repeat (first | refine bn ?_ _ | refine bd ?_ | refine ba ?_ _)); refine blk_put (cs := #[.int .i64 a0_0, .int .i64 a0_1, .int .i64 0, .string (⟨#[]⟩ : ByteArray)]) ?_ 2 _ rfl; (with_reducible repeat (first | refine bn ?_ _ | refine bd ?_ | refine ba ?_ _)); refine blk_put (cs := #[.int .i64 a0_0, .int .i64 0, .int .i64 0, .string (⟨#[]⟩ : ByteArray)]) ?_ 1 _ rfl; (with_reducible repeat (first | refine bn ?_ _ | refine bd ?_ | refine ba ?_ _)); refine blk_put (cs := #[.int .i64 0, .int .i64 0, .int .i64 0, .string (⟨#[]⟩ : ByteArray)]) ?_ 0 _ rfl; (with_reducible repeat (first | refine bn ?_ _ | refine bd ?_ | refine ba ?_ _)); exact BK617.out⟩
                   have n5_ : Aside0 (Below w.heap.size w ((((w100.setCell ⟨gb617, 0, none⟩ (.int .i64 a0_0)).setCell ⟨gb617, 1, none⟩ (.int .i64 a0_1)).setCell ⟨gb617, 2, none⟩ (.int .i64 a0_2)).setCell ⟨gb617, 3, none⟩ (.string a0_3))) := ⟨by repeat (first | (with_reducible first | exact HB.out | apply bl | apply pN | apply b1 | refine bs ?_ GE598.out | refine bs ?_ GE617.out) | exact HB.out | exact HBo.out)⟩
                   (try clear HO_1)
                   (try clear HO_5)
                   (try clear HO_6)
                   (try clear BK598)
                   (try clear BK617)
                   (try clear HB)
                   generalize ((((w100.setCell ⟨gb617, 0, none⟩ (.int .i64 a0_0)).setCell ⟨gb617, 1, none⟩ (.int .i64 a0_1)).setCell ⟨gb617, 2, none⟩ (.int .i64 a0_2)).setCell ⟨gb617, 3, none⟩ (.string a0_3)) = w103 at n0_ n1_ n2_ n3_ n4_ n5_ ⊢
                   have HO_1 := n0_
                   have HO_5 := n1_
                   have HO_6 := n2_
                   have BK598 := n3_
                   have BK617 := n4_
                   have HB := n5_
                   clear n0_ n1_ n2_ n3_ n4_ n5_
                   have n0_ := Am (Kd.V_drew HO_1.out)
                   have n1_ := Am (Kd.N_drew HO_5.out)
                   have n2_ := Am (Kd.R_drew HO_6.out)
                   have n3_ := Am (bd BK598.out)
                   have n4_ := Am (bd BK617.out)
                   have n5_ := Am (b1 HB.out)
                   clear HO_1
                   clear HO_5
                   clear HO_6
                   clear BK598
                   clear BK617
                   clear HB
                   have HO_1 := n0_
                   have HO_5 := n1_
                   have HO_6 := n2_
                   have BK598 := n3_
                   have BK617 := n4_
                   have HB := n5_
                   clear n0_ n1_ n2_ n3_ n4_ n5_
                   refine start_ (n := 7) (S := fun w' => w'.cell? ⟨gb598, 0, none⟩ = some (.int .i64 a0_0) ∧ w'.cell? ⟨gb598, 1, none⟩ = some (.int .i64 a0_1) ∧ w'.cell? ⟨gb598, 2, none⟩ = some (.int .i64 a0_2) ∧ w'.cell? ⟨gb598, 3, none⟩ = some (.string a0_3)) (ds := []) q19_19 (by kernel_rfl) rfl rfl ⟨(bc BK598.out 0).trans rfl, (bc BK598.out 1).trans rfl, (bc BK598.out 2).trans rfl, (bc BK598.out 3).trans rfl⟩ (fun hHeld => ?_)
                   generalize w103.drew = w104 at HO_1 HO_5 HO_6 BK598 BK617 HB hHeld ⊢
                   refine pure_ (i := 0) (N := some 116) (v := ?_) (a' := ?_) q19_20 rfl rfl (by kernel_rfl) (fun _ _ _ h => h) (Or.inl ⟨by rfl, ?_⟩) ?_ ?_
                   rotate_left
                   ·
                    intro w'
                    go_simp
                    with_reducible rfl
                   rotate_left
                   ·
                    simp only [Act.put, sI, sZ, sS, i64_w, i32_w]
                    rfl
                   refine pure_ (i := 2) (N := some 118) (v := ?_) (a' := ?_) q19_21 rfl rfl (by kernel_rfl) (fun _ _ _ h => h) (Or.inl ⟨by rfl, ?_⟩) ?_ ?_
                   rotate_left
                   ·
                    intro w'
                    go_simp
                    with_reducible rfl
                   rotate_left
                   ·
                    simp only [Act.put, sI, sZ, sS, i64_w, i32_w]
                    rfl
                   refine take_ (i := 1) (N := some 117) (v := ?_) (a' := ?_) q19_22 rfl rfl (by kernel_rfl) (fun _ _ _ h => h) (Or.inl ⟨by rfl, ?_⟩) hHeld ?_ ?_
                   rotate_left
                   ·
                    rintro w' ⟨s0, s1, s2, s3⟩
                    go_simp
                    with_reducible rfl
                   rotate_left
                   ·
                    simp only [Act.put, sI, sZ, sS, i64_w, i32_w]
                    rfl
                   refine one_ (i := 3) (N := some 119) q19_23 rfl rfl (by kernel_rfl) (by decide) (fun K hK => ?_)
                   refine goes_ Try.func20 (by kernel_rfl) rfl #[.slice A1 l1.length c1] (by rfl) rfl rfl (by (try simp only [List.map_toArray, List.map_cons, List.map_nil]); first | done | rfl | (simp only [List.length_drop, List.length_take]; rfl)) ?_
                   with_reducible refine (shuttlecockref04_Bytes.calls k5 _ _ l1 t618 _ ?side1 ?side2 A54.out).mono ?_
                   (case side1 => repeat (first | exact (Kd.V_reads' HO_1.out).2.2 | (with_reducible refine Kd.C_alloc ?_ _) | (with_reducible refine Kd.C_drewN ?_ _) | (with_reducible refine Kd.C_drew ?_)))
                   (case side2 => exact (Kd.V_reads' HO_1.out).2.1)
                   rintro e w105 ⟨rfl, hb⟩
                   refine ⟨_, rfl, ?_⟩
                   have n0_ := Am (Kd.V_below (by (with_reducible repeat (first | apply Kd.V_alloc | apply Kd.V_drewN | apply Kd.V_drew)); exact HO_1.out) hb)
                   have n1_ := Am (Kd.N_below (by (with_reducible repeat (first | apply Kd.N_alloc | apply Kd.N_drewN | apply Kd.N_drew)); exact HO_5.out) hb)
                   have n2_ := Am (Kd.R_below (by (with_reducible repeat (first | apply Kd.R_alloc | apply Kd.R_drewN | apply Kd.R_drew)); exact HO_6.out) hb)
                   have n3_ := Am (blk_below (g := gb598) (o := .cells #[.int .i64 a0_0, .int .i64 a0_1, .int .i64 a0_2, .string a0_3] 23 (0, 0)) (by (with_reducible repeat (first | refine bn ?_ _ | refine bd ?_ | refine ba ?_ _)); exact BK598.out) hb)
                   have n4_ := Am (blk_below (g := gb617) (o := .cells #[.int .i64 a0_0, .int .i64 a0_1, .int .i64 a0_2, .string a0_3] 23 (0, 0)) (by (with_reducible repeat (first | refine bn ?_ _ | refine bd ?_ | refine ba ?_ _)); exact BK617.out) hb)
                   have n5_ := Am (below_step (by repeat (first | (with_reducible first | exact HB.out | apply bl | apply pN | apply b1 | refine bs ?_ GE598.out | refine bs ?_ GE617.out) | exact HB.out | exact HBo.out)) hb)
                   clear HO_1
                   clear HO_5
                   clear HO_6
                   clear BK598
                   clear BK617
                   clear HB
                   have HO_1 := n0_
                   have HO_5 := n1_
                   have HO_6 := n2_
                   have BK598 := n3_
                   have BK617 := n4_
                   have HB := n5_
                   clear n0_ n1_ n2_ n3_ n4_ n5_
                   (try clear hb)
                   (try clear hb2)
                   (try clear hk)
                   (try clear hi)
                   refine hK.out _ _ ⟨(bc BK598.out 0).trans rfl, (bc BK598.out 1).trans rfl, (bc BK598.out 2).trans rfl, (bc BK598.out 3).trans rfl⟩ (fun hHeld => ?_)
                   clear hK K
                   refine norm_ (a' := ?_) ?_ ?_
                   rotate_left
                   ·
                    show Act.put _ (some 119) _ = _
                    simp only [Act.put, sI, sZ, sS, i64_w, i32_w]
                    rfl
                   refine pure_ (i := 4) (N := some 120) (v := ?_) (a' := ?_) q19_24 rfl rfl (by kernel_rfl) (fun _ _ _ h => h) (Or.inl ⟨by rfl, ?_⟩) ?_ ?_
                   rotate_left
                   ·
                    intro w'
                    go_simp
                    with_reducible rfl
                   rotate_left
                   ·
                    simp only [Act.put, sI, sZ, sS, i64_w, i32_w]
                    rfl
                   refine pure_ (i := 5) (N := some 121) (v := ?_) (a' := ?_) q19_25 rfl rfl (by kernel_rfl) (fun _ _ _ h => h) (Or.inl ⟨by rfl, ?_⟩) ?_ ?_
                   rotate_left
                   ·
                    intro w'
                    go_simp
                    with_reducible rfl
                   rotate_left
                   ·
                    simp only [Act.put, sI, sZ, sS, i64_w, i32_w]
                    rfl
                   refine one_ (i := 6) (N := none) q19_26 rfl rfl (by kernel_rfl) (by decide) (fun K hK => ?_)
                   have hs106 : w105.cell? ⟨gb617, 3, none⟩ = some (.string a0_3) := (bc BK617.out 3).trans rfl
                   have hfs106 := bf BK617.out 3
                   have hns106_0 := NB598_617.out
                   have hms106_0 := NB617_598.out
                   refine skip_ (w1 := ?_) (by rfl) rfl ?_ ?_
                   rotate_left
                   ·
                    go_simp
                    rfl
                   refine hK.out _ _ ⟨((cell_far (p := ⟨gb617, _, none⟩) NB598_617.out _).trans (hHeld.1)), ((cell_far (p := ⟨gb617, _, none⟩) NB598_617.out _).trans (hHeld.2.1)), ((cell_far (p := ⟨gb617, _, none⟩) NB598_617.out _).trans (hHeld.2.2.1)), ((cell_far (p := ⟨gb617, _, none⟩) NB598_617.out _).trans (hHeld.2.2.2))⟩ (fun hHeld => ?_)
                   clear hK K
                   refine done_ (by kernel_rfl) ?_
                   have hcz107_0 : w105.cell? ⟨gb617, 0, none⟩ = some (.int .i64 a0_0) := (bc BK617.out 0).trans rfl
                   have hcz107_1 : w105.cell? ⟨gb617, 1, none⟩ = some (.int .i64 a0_1) := (bc BK617.out 1).trans rfl
                   have hcz107_2 : w105.cell? ⟨gb617, 2, none⟩ = some (.int .i64 a0_2) := (bc BK617.out 2).trans rfl
                   have hcz107_3 : w105.cell? ⟨gb617, 3, none⟩ = some (.string a0_3) := (bc BK617.out 3).trans rfl
                   have hfz107_0 := bf BK617.out 0
                   have hfz107_1 := bf BK617.out 1
                   have hfz107_2 := bf BK617.out 2
                   have hfz107_3 := bf BK617.out 3
                   try go_wp2_with (first | ((with_reducible refine gate_callee (f := 11) rfl ?_); refine goesL_ (some 124) rfl rfl Try.func11 (by kernel_rfl) rfl #[.agg #[.int .i64 a0_0, .int .i64 a0_1, .int .i64 a0_2, .string (a0_3 ++ t618)]] rfl (by (try simp only [List.map_toArray, List.map_cons, List.map_nil]); first | done | rfl | (simp only [List.length_drop, List.length_take]; rfl)) ?_; (with_reducible refine (batch_Events.calls k5 a0_0 a0_1 a0_2 (a0_3 ++ t618) t619 t622 t625 t626 _ A56.out).mono ?_); rintro e w108 ⟨v620, v623, rfl, ho0, ho1, hb⟩; refine ⟨_, rfl, ?_⟩; have n0_ := Am (Kd.V_mono (Kd.V_told (Kd.V_told (Kd.V_old (by (with_reducible repeat (first | apply Kd.V_alloc | apply Kd.V_drewN | apply Kd.V_drew)); exact (Kd.V_mono (Kd.V_far (p := ⟨gb617, 3, none⟩) (Kd.V_mono HO_1.out (fun k_ hk => (⟨hk, hk.2.2.2.2⟩ : _ ∧ k_ ≠ gb617))) (fun _ hk => hk.2) (.string (a0_3 ++ t618))) (fun _ h_ => h_.1))) hb) (Kd.S_base ho0)) (Kd.R_base ho1)) (fun _ h_ => h_.1)); have n1_ := Am (Kd.N_mono (Kd.N_told (Kd.N_told (Kd.N_old (by (with_reducible repeat (first | apply Kd.N_alloc | apply Kd.N_drewN | apply Kd.N_drew)); exact (Kd.N_mono (Kd.N_far (p := ⟨gb617, 3, none⟩) (Kd.N_mono HO_5.out (fun k_ hk => (⟨hk, hk.2.2.2⟩ : _ ∧ k_ ≠ gb617))) (fun _ hk => hk.2) (.string (a0_3 ++ t618))) (fun _ h_ => h_.1))) hb) (Kd.S_base ho0)) (Kd.R_base ho1)) (fun _ h_ => h_.1)); have n2_ := Am (Kd.R_elder' (by (with_reducible repeat (first | apply Kd.R_alloc | apply Kd.R_drewN | apply Kd.R_drew)); exact (Kd.R_mono (Kd.R_far (p := ⟨gb617, 3, none⟩) (Kd.R_types HO_6.out BK617.out (by decide)) (fun _ hk => hk.2) (.string (a0_3 ++ t618))) (fun _ h_ => h_.1))) (Kd.R_base ho1) hb); have n3_ := Am (Kd.N_lower (Kd.N_mono (ok' := fun k_ => (P1_ k_ ∨ w.heap.size ≤ k_) ∧ some k_ ≠ (v623 : Value).ownBlock ∧ some k_ ≠ (v603 : Value).ownBlock ∧ some k_ ≠ (v606 : Value).ownBlock ∧ k_ ≠ gb598 ∧ k_ ≠ gb617) (Kd.S_N (Kd.S_bound ho0)) (fun k_ hk_ => ⟨(.inr (Nat.le_trans (below_size (by repeat (first | (with_reducible first | exact HB.out | apply bl | apply pN | apply b1 | refine bs ?_ GE598.out | refine bs ?_ GE617.out) | exact HB.out | exact HBo.out))) hk_.2.1)), hk_.1, (Kd.fresh' (Kd.N_lt (by (with_reducible repeat (first | apply Kd.N_alloc | apply Kd.N_drewN | apply Kd.N_drew)); exact (Kd.N_mono (Kd.N_far (p := ⟨gb617, 3, none⟩) (Kd.N_mono HO_5.out (fun k_ hk => (⟨hk, hk.2.2.2⟩ : _ ∧ k_ ≠ gb617))) (fun _ hk => hk.2) (.string (a0_3 ++ t618))) (fun _ h_ => h_.1)))) k_ hk_.2.1), (Kd.fresh' (Kd.R_lt (by (with_reducible repeat (first | apply Kd.R_alloc | apply Kd.R_drewN | apply Kd.R_drew)); exact (Kd.R_mono (Kd.R_far (p := ⟨gb617, 3, none⟩) (Kd.R_types HO_6.out BK617.out (by decide)) (fun _ hk => hk.2) (.string (a0_3 ++ t618))) (fun _ h_ => h_.1)))) k_ hk_.2.1), (Kd.freshB (g := gb598) (o := .cells #[.int .i64 a0_0, .int .i64 a0_1, .int .i64 a0_2, .string a0_3] 23 (0, 0)) (by (with_reducible repeat (first | refine bn ?_ _ | refine bd ?_ | refine ba ?_ _)); refine blk_far ?_ NB598_617.out _; (with_reducible repeat (first | refine bn ?_ _ | refine bd ?_ | refine ba ?_ _)); exact BK598.out) k_ hk_.2.1), (Kd.freshB (g := gb617) (o := .cells #[.int .i64 a0_0, .int .i64 a0_1, .int .i64 a0_2, .string (a0_3 ++ t618)] 23 (0, 0)) (by (with_reducible repeat (first | refine bn ?_ _ | refine bd ?_ | refine ba ?_ _)); refine blk_put (cs := #[.int .i64 a0_0, .int .i64 a0_1, .int .i64 a0_2, .string a0_3]) ?_ 3 _ rfl; (with_reducible repeat (first | refine bn ?_ _ | refine bd ?_ | refine ba ?_ _)); exact BK617.out) k_ hk_.2.1)⟩)) (below_size (by repeat (first | (with_reducible first | exact HB.out | apply bl | apply pN | apply b1 | refine bs ?_ GE598.out | refine bs ?_ GE617.out) | exact HB.out | exact HBo.out)))); have n4_ := Am (Kd.R_lower (Kd.R_new' (Kd.R_newM (M := fun k_ => (w.heap.size ≤ k_)) ho1 (below_size (by repeat (first | (with_reducible first | exact HB.out | apply bl | apply pN | apply b1 | refine bs ?_ GE598.out | refine bs ?_ GE617.out) | exact HB.out | exact HBo.out))) (fun k_ h_ => h_)) (Kd.R_lt (by (with_reducible repeat (first | apply Kd.R_alloc | apply Kd.R_drewN | apply Kd.R_drew)); exact (Kd.R_mono (Kd.R_far (p := ⟨gb617, 3, none⟩) (Kd.R_types HO_6.out BK617.out (by decide)) (fun _ hk => hk.2) (.string (a0_3 ++ t618))) (fun _ h_ => h_.1))))) (below_size (by repeat (first | (with_reducible first | exact HB.out | apply bl | apply pN | apply b1 | refine bs ?_ GE598.out | refine bs ?_ GE617.out) | exact HB.out | exact HBo.out)))); have n5_ := Am (blk_below (g := gb598) (o := .cells #[.int .i64 a0_0, .int .i64 a0_1, .int .i64 a0_2, .string a0_3] 23 (0, 0)) (by (with_reducible repeat (first | refine bn ?_ _ | refine bd ?_ | refine ba ?_ _)); refine blk_far ?_ NB598_617.out _; (with_reducible repeat (first | refine bn ?_ _ | refine bd ?_ | refine ba ?_ _)); exact BK598.out) hb); have n6_ := Am (blk_below (g := gb617) (o := .cells #[.int .i64 a0_0, .int .i64 a0_1, .int .i64 a0_2, .string (a0_3 ++ t618)] 23 (0, 0)) (by (with_reducible repeat (first | refine bn ?_ _ | refine bd ?_ | refine ba ?_ _)); refine blk_put (cs := #[.int .i64 a0_0, .int .i64 a0_1, .int .i64 a0_2, .string a0_3]) ?_ 3 _ rfl; (with_reducible repeat (first | refine bn ?_ _ | refine bd ?_ | refine ba ?_ _)); exact BK617.out) hb); have n7_ := Am (below_step (by repeat (first | (with_reducible first | exact HB.out | apply bl | apply pN | apply b1 | refine bs ?_ GE598.out | refine bs ?_ GE617.out) | exact HB.out | exact HBo.out)) hb); clear HO_1; clear HO_5; clear HO_6; clear BK598; clear BK617; clear HB; have HO_1 := n0_; have HO_5 := n1_; have HO_6 := n2_; have HO621 := n3_; have HO624 := n4_; have BK598 := n5_; have BK617 := n6_; have HB := n7_; clear n0_ n1_ n2_ n3_ n4_ n5_ n6_ n7_; (try clear hb); (try clear hb2); (try clear hk); (try clear hi); (try clear ho0); (try clear ho1); have hcz109_0 : w108.cell? ⟨gb617, 0, none⟩ = some (.int .i64 a0_0) := (bc BK617.out 0).trans rfl; have hcz109_1 : w108.cell? ⟨gb617, 1, none⟩ = some (.int .i64 a0_1) := (bc BK617.out 1).trans rfl; have hcz109_2 : w108.cell? ⟨gb617, 2, none⟩ = some (.int .i64 a0_2) := (bc BK617.out 2).trans rfl; have hcz109_3 : w108.cell? ⟨gb617, 3, none⟩ = some (.string (a0_3 ++ t618)) := (bc BK617.out 3).trans rfl; have hfz109_0 := bf BK617.out 0; have hfz109_1 := bf BK617.out 1; have hfz109_2 := bf BK617.out 2; have hfz109_3 := bf BK617.out 3) | (go_at_call 13; (with_reducible refine (batch_May.calls a0_0 a0_1 a0_2 (a0_3 ++ t618) t643 _ A98.out).mono ?_); rintro e w110 ⟨rfl, hb⟩; have n0_ := Am (Kd.V_below (by (with_reducible repeat (first | apply Kd.V_alloc | apply Kd.V_drewN | apply Kd.V_drew)); exact HO_1.out) hb); have n1_ := Am (Kd.N_below (by (with_reducible repeat (first | apply Kd.N_alloc | apply Kd.N_drewN | apply Kd.N_drew)); exact HO_5.out) hb); have n2_ := Am (Kd.R_below (by (with_reducible repeat (first | apply Kd.R_alloc | apply Kd.R_drewN | apply Kd.R_drew)); exact HO_6.out) hb); have n3_ := Am (Kd.N_below (by (with_reducible repeat (first | apply Kd.N_alloc | apply Kd.N_drewN | apply Kd.N_drew)); exact HO621.out) hb); have n4_ := Am (Kd.R_below (by (with_reducible repeat (first | apply Kd.R_alloc | apply Kd.R_drewN | apply Kd.R_drew)); exact HO624.out) hb); have n5_ := Am (blk_below (g := gb598) (o := .cells #[.int .i64 a0_0, .int .i64 a0_1, .int .i64 a0_2, .string a0_3] 23 (0, 0)) (by (with_reducible repeat (first | refine bn ?_ _ | refine bd ?_ | refine ba ?_ _)); exact BK598.out) hb); have n6_ := Am (blk_below (g := gb617) (o := .cells #[.int .i64 a0_0, .int .i64 a0_1, .int .i64 a0_2, .string (a0_3 ++ t618)] 23 (0, 0)) (by (with_reducible repeat (first | refine bn ?_ _ | refine bd ?_ | refine ba ?_ _)); exact BK617.out) hb); have n7_ := Am (below_step (by repeat (first | (with_reducible first | exact HB.out | apply bl | apply pN | apply b1 | refine bs ?_ GE598.out | refine bs ?_ GE617.out) | exact HB.out | exact HBo.out)) hb); clear HO_1; clear HO_5; clear HO_6; clear HO621; clear HO624; clear BK598; clear BK617; clear HB; have HO_1 := n0_; have HO_5 := n1_; have HO_6 := n2_; have HO621 := n3_; have HO624 := n4_; have BK598 := n5_; have BK617 := n6_; have HB := n7_; clear n0_ n1_ n2_ n3_ n4_ n5_ n6_ n7_; (try clear hb); (try clear hb2); (try clear hk); (try clear hi)))
                   go_ret
                   exact ⟨by first | rfl | (simp [errW_none, errW_some] <;> rfl) | (simp [*, errW_none, errW_some] <;> rfl) | (simp [Aid.ne_nil, Aid.eq_nil, errW_none, errW_some]; done), by repeat (first | (with_reducible first | exact HB.out | apply bl | apply pN | apply b1 | refine bs ?_ GE598.out | refine bs ?_ GE617.out) | exact HB.out | exact HBo.out)⟩
                ·
                 rw [if_neg c55] at H
                 exact absurd H (by simp)
    ·
     rw [if_neg c18] at H
     have c18b0 : (t609 == 0) = false := beq_eq_false_iff_ne.mpr c18
     have c18b1 : (t609 != 0) = true := bne_iff_ne.mpr c18
     by_cases c111 : (wrap64 ((t602.length : Int) + (t605.length : Int))) = 0
     ·
      rw [if_pos c111] at H
      have c111b0 : ((wrap64 ((t602.length : Int) + (t605.length : Int))) == 0) = true := beq_iff_eq.mpr c111
      have c111b1 : ((wrap64 ((t602.length : Int) + (t605.length : Int))) != 0) = false := bne_eq_false_iff_eq.mpr c111
      clear c111
      obtain rfl := Option.some.inj H
      have hcz112_0 : wc.cell? ⟨gb598, 0, none⟩ = some (.int .i64 a0_0) := (bc BK598.out 0).trans rfl
      have hcz112_1 : wc.cell? ⟨gb598, 1, none⟩ = some (.int .i64 a0_1) := (bc BK598.out 1).trans rfl
      have hcz112_2 : wc.cell? ⟨gb598, 2, none⟩ = some (.int .i64 a0_2) := (bc BK598.out 2).trans rfl
      have hcz112_3 : wc.cell? ⟨gb598, 3, none⟩ = some (.string a0_3) := (bc BK598.out 3).trans rfl
      have hfz112_0 := bf BK598.out 0
      have hfz112_1 := bf BK598.out 1
      have hfz112_2 := bf BK598.out 2
      have hfz112_3 := bf BK598.out 3
      go_wp2_with (first | ((with_reducible refine gate_callee (f := 11) rfl ?_); refine goesL_ (some 33) rfl rfl Try.func11 (by kernel_rfl) rfl #[.agg #[.int .i64 a0_0, .int .i64 a0_1, .int .i64 a0_2, .string a0_3]] rfl (by (try simp only [List.map_toArray, List.map_cons, List.map_nil]); first | done | rfl | (simp only [List.length_drop, List.length_take]; rfl)) ?_; (with_reducible refine (batch_Events.calls kj2 a0_0 a0_1 a0_2 a0_3 t602 t605 t608 t609 _ A17.out).mono ?_); rintro e w113 ⟨v603, v606, rfl, ho0, ho1, hb⟩; refine ⟨_, rfl, ?_⟩; have n0_ := Am (Kd.V_mono (Kd.V_told (Kd.V_told (Kd.V_old (by (with_reducible repeat (first | apply Kd.V_alloc | apply Kd.V_drewN | apply Kd.V_drew)); exact HO_1.out) hb) (Kd.S_base ho0)) (Kd.R_base ho1)) (fun _ h_ => h_.1)); have n1_ := Am (Kd.N_lower (Kd.N_mono (ok' := fun k_ => (P1_ k_ ∨ w.heap.size ≤ k_) ∧ some k_ ≠ (v606 : Value).ownBlock ∧ k_ ≠ gb598) (Kd.S_N (Kd.S_bound ho0)) (fun k_ hk_ => ⟨(.inr (Nat.le_trans (below_size (by repeat (first | (with_reducible first | exact HB.out | apply bl | apply pN | apply b1 | refine bs ?_ GE598.out) | exact HB.out | exact HBo.out))) hk_.2.1)), hk_.1, (Kd.freshB (g := gb598) (o := .cells #[.int .i64 a0_0, .int .i64 a0_1, .int .i64 a0_2, .string a0_3] 23 (0, 0)) (by (with_reducible repeat (first | refine bn ?_ _ | refine bd ?_ | refine ba ?_ _)); exact BK598.out) k_ hk_.2.1)⟩)) (below_size (by repeat (first | (with_reducible first | exact HB.out | apply bl | apply pN | apply b1 | refine bs ?_ GE598.out) | exact HB.out | exact HBo.out)))); have n2_ := Am (Kd.R_lower (Kd.R_newM (M := fun k_ => (w.heap.size ≤ k_)) ho1 (below_size (by repeat (first | (with_reducible first | exact HB.out | apply bl | apply pN | apply b1 | refine bs ?_ GE598.out) | exact HB.out | exact HBo.out))) (fun k_ h_ => h_)) (below_size (by repeat (first | (with_reducible first | exact HB.out | apply bl | apply pN | apply b1 | refine bs ?_ GE598.out) | exact HB.out | exact HBo.out)))); have n3_ := Am (blk_below (g := gb598) (o := .cells #[.int .i64 a0_0, .int .i64 a0_1, .int .i64 a0_2, .string a0_3] 23 (0, 0)) (by (with_reducible repeat (first | refine bn ?_ _ | refine bd ?_ | refine ba ?_ _)); exact BK598.out) hb); have n4_ := Am (below_step (by repeat (first | (with_reducible first | exact HB.out | apply bl | apply pN | apply b1 | refine bs ?_ GE598.out) | exact HB.out | exact HBo.out)) hb); clear HO_1; clear BK598; clear HB; have HO_1 := n0_; have HO604 := n1_; have HO607 := n2_; have BK598 := n3_; have HB := n4_; clear n0_ n1_ n2_ n3_ n4_; (try clear hb); (try clear hb2); (try clear hk); (try clear hi); (try clear ho0); (try clear ho1); obtain ⟨Ao114, co114, eo114⟩ := Kd.N_slice HO604.out; subst eo114; obtain ⟨Ao115, co115, eo115⟩ := Kd.R_slice HO607.out; subst eo115; have hcz116_0 : w113.cell? ⟨gb598, 0, none⟩ = some (.int .i64 a0_0) := (bc BK598.out 0).trans rfl; have hcz116_1 : w113.cell? ⟨gb598, 1, none⟩ = some (.int .i64 a0_1) := (bc BK598.out 1).trans rfl; have hcz116_2 : w113.cell? ⟨gb598, 2, none⟩ = some (.int .i64 a0_2) := (bc BK598.out 2).trans rfl; have hcz116_3 : w113.cell? ⟨gb598, 3, none⟩ = some (.string a0_3) := (bc BK598.out 3).trans rfl; have hfz116_0 := bf BK598.out 0; have hfz116_1 := bf BK598.out 1; have hfz116_2 := bf BK598.out 2; have hfz116_3 := bf BK598.out 3))
      go_ret
      exact ⟨by first | rfl | (simp [errW_none, errW_some] <;> rfl) | (simp [*, errW_none, errW_some] <;> rfl) | (simp [Aid.ne_nil, Aid.eq_nil, errW_none, errW_some]; done), by repeat (first | (with_reducible first | exact HB.out | apply bl | apply pN | apply b1 | refine bs ?_ GE598.out) | exact HB.out | exact HBo.out)⟩
     ·
      rw [if_neg c111] at H
      exact absurd H (by simp)

/-- THE ONE PURE STATEMENT of shuttlecocklaw05_BatchTimes (own row). -/
def shuttlecocklaw05_BatchTimes.Pure : Prop := ∀ (y0 : S23) (y1 : List (S41)), ((Lit.int .i64 y0.f0).wf = true ∧ (Lit.int .i64 y0.f1).wf = true ∧ (Lit.int .i64 y0.f2).wf = true ∧ y0.f3.size ≤ 140737488351232) → ((∀ e2 ∈ y1, ((Lit.int .i64 e2.f0).wf = true ∧ (Lit.int .i64 e2.f1).wf = true ∧ ((∀ e6 ∈ e2.f2, (Lit.int .i64 e6).wf = true) ∧ e2.f2.length ≤ 140737488351232) ∧ e2.f3.size ≤ 140737488351232)) ∧ y1.length ≤ 140737488351232) → ∃ k, shuttlecocklaw05_BatchTimes.f k y0.f0 y0.f1 y0.f2 y0.f3 y1 = some true

end Go.Proofs.Ytfcombimnmkoeaa.Q
