-- printed by a program of this session (NOTES: hprint); not the kit's print
-- minified3
-- minified2
-- minified
-- halved
import Derived.Test.YtfcombimnmkoeaaOg
import Derived.Test.YtfcombimnmkoeaaAl
import Derived.Test.YtfcombimnmkoeaaQx0
import Derived.Test.YtfcombimnmkoeaaQx1
import Derived.Test.YtfcombimnmkoeaaQx2
import Derived.Test.YtfcombimnmkoeaaQx3
import Derived.Test.YtfcombimnmkoeaaQx5
import Derived.Test.YtfcombimnmkoeaaQx6
import Derived.Test.YtfcombimnmkoeaaQx9
import Derived.Test.YtfcombimnmkoeaaQx12
import Derived.Test.YtfcombimnmkoeaaQx14
import Derived.Test.YtfcombimnmkoeaaQx15
namespace Go.Proofs.Ytfcombimnmkoeaa.Q
open Go.RowKit Go.Proofs.YtfcombimnmkoeaaW.PrintWords Go.Proofs.YtfcombimnmkoeaaW.PrintLast Go.Proofs.YtfcombimnmkoeaaW.PrintMore
attribute [local go_sem] max2_int min2_int max_two min_two max_three min_three max_four min_four   -- for this text's walks alone
set_option linter.unusedVariables false
set_option linter.unusedSimpArgs false

attribute [local go_sem high] eqA23
def q16_0 : Array Bool := let o := true; let z := false; #[z,z,z,z,z,z,z,z,z,z,z,z,z,z,z,z,z,z,z,z,z,z,z,z,z,z,z,z,z,z,z,z,z,z,z,z,z,z,z,z,z,z,z,z,z,z,z,z,z,z,z]
def q16_1 : Array Bool := let o := true; let z := false; #[o,z,z,z,z,z,z,z,z,z,z,z,z,z,z,z,z,z,z,z,z,z,z,z,z,z,z,z,z,z,z,z,z,z,z,z,z,z,z,z,z,z,z,z,z,z,z,z,z,z,z]
def q16_2 : Array Bool := let o := true; let z := false; #[o,o,z,z,z,z,z,z,z,z,z,z,z,z,z,z,z,z,z,z,z,z,z,z,z,z,z,z,z,z,z,z,z,z,z,z,z,z,z,z,z,z,z,z,z,z,z,z,z,z,z]
def q16_3 : Array Bool := let o := true; let z := false; #[o,o,o,z,z,z,z,z,z,z,z,z,z,z,z,z,z,z,z,z,z,z,z,z,z,z,z,z,z,z,z,z,z,z,z,z,z,z,z,z,z,z,z,z,z,z,z,z,z,z,z]
def q16_4 : Array Bool := let o := true; let z := false; #[o,o,o,z,o,z,z,z,z,z,z,z,z,z,z,z,z,z,z,z,z,z,z,z,z,z,z,z,z,z,z,z,z,z,z,z,z,z,z,z,z,z,z,z,z,z,z,z,z,z,z]
def q16_5 : Array Bool := let o := true; let z := false; #[o,o,o,o,o,z,z,z,z,z,z,z,z,z,z,z,z,z,z,z,z,z,z,z,z,z,z,z,z,z,z,z,z,z,z,z,z,z,z,z,z,z,z,z,z,z,z,z,z,z,z]
def q16_6 : Array Bool := let o := true; let z := false; #[o,o,o,o,o,o,z,z,z,z,z,z,z,z,z,z,z,z,z,z,z,z,z,z,z,z,z,z,z,z,z,z,z,z,z,z,z,z,z,z,z,z,z,z,z,z,z,z,z,z,z]
def q16_7 : Array Bool := let o := true; let z := false; #[o,o,o,o,o,o,o,z,z,z,z,z,z,z,z,z,z,z,z,z,z,z,z,z,z,z,z,z,z,z,z,z,z,z,z,z,z,z,z,z,z,z,z,z,z,z,z,z,z,z,z]
def q16_8 : Array Bool := let o := true; let z := false; #[o,o,o,o,o,o,o,o,z,z,z,z,z,z,z,z,z,z,z,z,z,z,z,z,z,z,z,z,z,z,z,z,z,z,z,z,z,z,z,z,z,z,z,z,z,z,z,z,z,z,z]
def q16_9 : Array Bool := let o := true; let z := false; #[o,o,o,o,o,o,o,o,o,z,z,z,z,z,z,z,z,z,z,z,z,z,z,z,z,z,z,z,z,z,z,z,z,z,z,z,z,z,z,z,z,z,z,z,z,z,z,z,z,z,z]
def q16_10 : Array Bool := let o := true; let z := false; #[o,o,o,o,o,o,o,o,o,o,z,z,z,z,z,z,z,z,z,z,z,z,z,z,z,z,z,z,z,z,z,z,z,z,z,z,z,z,z,z,z,z,z,z,z,z,z,z,z,z,z]
def q16_11 : Array Bool := let o := true; let z := false; #[o,o,o,o,o,o,o,o,o,o,z,o,z,z,z,z,z,z,z,z,z,z,z,z,z,z,z,z,z,z,z,z,z,z,z,z,z,z,z,z,z,z,z,z,z,z,z,z,z,z,z]
def q16_12 : Array Bool := let o := true; let z := false; #[o,o,o,o,o,o,o,o,o,o,o,o,z,z,z,z,z,z,z,z,z,z,z,z,z,z,z,z,z,z,z,z,z,z,z,z,z,z,z,z,z,z,z,z,z,z,z,z,z,z,z]
def q16_13 : Array Bool := let o := true; let z := false; #[o,o,o,o,o,o,o,o,o,o,o,o,o,z,z,z,z,z,z,z,z,z,z,z,z,z,z,z,z,z,z,z,z,z,z,z,z,z,z,z,z,z,z,z,z,z,z,z,z,z,z]
def q16_14 : Array Bool := let o := true; let z := false; #[o,o,o,o,o,o,o,o,o,o,o,o,o,o,z,z,z,z,z,z,z,z,z,z,z,z,z,z,z,z,z,z,z,z,z,z,z,z,z,z,z,z,z,z,z,z,z,z,z,z,z]
def q16_15 : Array Bool := let o := true; let z := false; #[o,o,o,o,o,o,o,o,o,o,o,o,o,o,o,z,z,z,z,z,z,z,z,z,z,z,z,z,z,z,z,z,z,z,z,z,z,z,z,z,z,z,z,z,z,z,z,z,z,z,z]
def q16_16 : Array Bool := let o := true; let z := false; #[o,o,o,o,o,o,o,o,o,o,o,o,o,o,o,o,z,z,z,z,z,z,z,z,z,z,z,z,z,z,z,z,z,z,z,z,z,z,z,z,z,z,z,z,z,z,z,z,z,z,z]
def q16_17 : Array Bool := let o := true; let z := false; #[o,o,o,o,o,o,o,o,o,o,o,o,o,o,o,o,o,z,z,z,z,z,z,z,z,z,z,z,z,z,z,z,z,z,z,z,z,z,z,z,z,z,z,z,z,z,z,z,z,z,z]
def q16_18 : Array Bool := let o := true; let z := false; #[o,o,o,o,o,o,o,o,o,o,o,o,o,o,o,o,o,o,z,z,z,z,z,z,z,z,z,z,z,z,z,z,z,z,z,z,z,z,z,z,z,z,z,z,z,z,z,z,z,z,z]
def q16_19 : Array Bool := let o := true; let z := false; #[o,o,o,o,o,o,o,o,o,o,o,o,o,o,o,o,o,o,o,z,z,z,z,z,z,z,z,z,z,z,z,z,z,z,z,z,z,z,z,z,z,z,z,z,z,z,z,z,z,z,z]
def q16_20 : Array Bool := let o := true; let z := false; #[o,o,o,o,o,o,o,o,o,o,o,o,o,o,o,o,o,o,o,o,z,z,z,z,z,z,z,z,z,z,z,z,z,z,z,z,z,z,z,z,z,z,z,z,z,z,z,z,z,z,z]
def q16_21 : Array Bool := let o := true; let z := false; #[o,o,o,o,o,o,o,o,o,o,o,o,o,o,o,o,o,o,o,o,o,z,z,z,z,z,z,z,z,z,z,z,z,z,z,z,z,z,z,z,z,z,z,z,z,z,z,z,z,z,z]
def q16_22 : Array Bool := let o := true; let z := false; #[o,o,o,o,o,o,o,o,o,o,o,o,o,o,o,o,o,o,o,o,o,o,z,z,z,z,z,z,z,z,z,z,z,z,z,z,z,z,z,z,z,z,z,z,z,z,z,z,z,z,z]
def q16_23 : Array Bool := let o := true; let z := false; #[o,o,o,o,o,o,o,o,o,o,o,o,o,o,o,o,o,o,o,o,o,o,o,z,z,z,z,z,z,z,z,z,z,z,z,z,z,z,z,z,z,z,z,z,z,z,z,z,z,z,z]
def q16_24 : Array Bool := let o := true; let z := false; #[o,o,o,o,o,o,o,o,o,o,o,o,o,o,o,o,o,o,o,o,o,o,o,o,z,z,z,z,z,z,z,z,z,z,z,z,z,z,z,z,z,z,z,z,z,z,z,z,z,z,z]
def q16_25 : Array Bool := let o := true; let z := false; #[o,o,o,o,o,o,o,o,o,o,o,o,o,o,o,o,o,o,o,o,o,o,o,o,o,z,z,z,z,z,z,z,z,z,z,z,z,z,z,z,z,z,z,z,z,z,z,z,z,z,z]
def q16_26 : Array Bool := let o := true; let z := false; #[o,o,o,o,o,o,o,o,o,o,o,o,o,o,o,o,o,o,o,o,o,o,o,o,o,o,z,z,z,z,z,z,z,z,z,z,z,z,z,z,z,z,z,z,z,z,z,z,z,z,z]
def q16_27 : Array Bool := let o := true; let z := false; #[o,o,o,o,o,o,o,o,o,o,o,o,o,o,o,o,o,o,o,o,o,o,o,o,o,o,o,z,z,z,z,z,z,z,z,z,z,z,z,z,z,z,z,z,z,z,z,z,z,z,z]
def q16_28 : Array Bool := let o := true; let z := false; #[o,o,o,o,o,o,o,o,o,o,o,o,o,o,o,o,o,o,o,o,o,o,o,o,o,o,o,o,z,z,z,z,z,z,z,z,z,z,z,z,z,z,z,z,z,z,z,z,z,z,z]
def q16_29 : Array Bool := let o := true; let z := false; #[o,o,o,o,o,o,o,o,o,o,o,o,o,o,o,o,o,o,o,o,o,o,o,o,o,o,o,o,o,z,z,z,z,z,z,z,z,z,z,z,z,z,z,z,z,z,z,z,z,z,z]
def q16_30 : Array Bool := let o := true; let z := false; #[o,o,o,o,o,o,o,o,o,o,o,o,o,o,o,o,o,o,o,o,o,o,o,o,o,o,o,o,o,o,z,z,z,z,z,z,z,z,z,z,z,z,z,z,z,z,z,z,z,z,z]
def q16_31 : Array Bool := let o := true; let z := false; #[o,o,o,o,o,o,o,o,o,o,o,o,o,o,o,o,o,o,o,o,o,o,o,o,o,o,o,o,o,o,o,z,z,z,z,z,z,z,z,z,z,z,z,z,z,z,z,z,z,z,z]
def q16_32 : Array Bool := let o := true; let z := false; #[o,o,o,o,o,o,o,o,o,o,o,o,o,o,o,o,o,o,o,o,o,o,o,o,o,o,o,o,o,o,o,o,z,z,z,z,z,z,z,z,z,z,z,z,z,z,z,z,z,z,z]
def q16_33 : Array Bool := let o := true; let z := false; #[o,o,o,o,o,o,o,o,o,o,o,o,o,o,o,o,o,o,o,o,o,o,o,o,o,o,o,o,o,o,o,o,o,z,z,z,z,z,z,z,z,z,z,z,z,z,z,z,z,z,z]
def q16_34 : Array Bool := let o := true; let z := false; #[o,o,o,o,o,o,o,o,o,o,o,o,o,o,o,o,o,o,o,o,o,o,o,o,o,o,o,o,o,o,o,o,o,o,z,z,z,z,z,z,z,z,z,z,z,z,z,z,z,z,z]
def q16_35 : Array Bool := let o := true; let z := false; #[o,o,o,o,o,o,o,o,o,o,o,o,o,o,o,o,o,o,o,o,o,o,o,o,o,o,o,o,o,o,o,o,o,o,o,z,z,z,z,z,z,z,z,z,z,z,z,z,z,z,z]
def q16_36 : Array Bool := let o := true; let z := false; #[o,o,o,o,o,o,o,o,o,o,o,o,o,o,o,o,o,o,o,o,o,o,o,o,o,o,o,o,o,o,o,o,o,o,o,o,z,z,z,z,z,z,z,z,z,z,z,z,z,z,z]
def q16_37 : Array Bool := let o := true; let z := false; #[o,o,o,o,o,o,o,o,o,o,o,o,o,o,o,o,o,o,o,o,o,o,o,o,o,o,o,o,o,o,o,o,o,o,o,o,o,z,z,z,z,z,z,z,z,z,z,z,z,z,z]
def q16_38 : Array Bool := let o := true; let z := false; #[o,o,o,o,o,o,o,o,o,o,o,o,o,o,o,o,o,o,o,o,o,o,o,o,o,o,o,o,o,o,o,o,o,o,o,o,o,o,z,z,z,z,z,z,z,z,z,z,z,z,z]
def q16_39 : Array Bool := let o := true; let z := false; #[o,o,o,o,o,o,o,o,o,o,o,o,o,o,o,o,o,o,o,o,o,o,o,o,o,o,o,o,o,o,o,o,o,o,o,o,o,o,o,z,z,z,z,z,z,z,z,z,z,z,z]
def q16_40 : Array Bool := let o := true; let z := false; #[o,o,o,o,o,o,o,o,o,o,o,o,o,o,o,o,o,o,o,o,o,o,o,o,o,o,o,o,o,o,o,o,o,o,o,o,o,o,o,o,z,z,z,z,z,z,z,z,z,z,z]
def q16_41 : Array Bool := let o := true; let z := false; #[o,o,o,o,o,o,o,o,o,o,o,o,o,o,o,o,o,o,o,o,o,o,o,o,o,o,o,o,o,o,o,o,o,o,o,o,o,o,o,o,o,z,z,z,z,z,z,z,z,z,z]
def q16_42 : Array Bool := let o := true; let z := false; #[o,o,o,o,o,o,o,o,o,o,o,o,o,o,o,o,o,o,o,o,o,o,o,o,o,o,o,o,o,o,o,o,o,o,o,o,o,o,o,o,o,o,z,z,z,z,z,z,z,z,z]
def q16_43 : Array Bool := let o := true; let z := false; #[o,o,o,o,o,o,o,o,o,o,o,o,o,o,o,o,o,o,o,o,o,o,o,o,o,o,o,o,o,o,o,o,o,o,o,o,o,o,o,o,o,o,o,z,z,z,z,z,z,z,z]
def q16_44 : Array Bool := let o := true; let z := false; #[o,o,o,o,o,o,o,o,o,o,o,o,o,o,o,o,o,o,o,o,o,o,o,o,o,o,o,o,o,o,o,o,o,o,o,o,o,o,o,o,o,o,o,o,z,z,z,z,z,z,z]
def q16_45 : Array Bool := let o := true; let z := false; #[o,o,o,o,o,o,o,o,o,o,o,o,o,o,o,o,o,o,o,o,o,o,o,o,o,o,o,o,o,o,o,o,o,o,o,o,o,o,o,o,o,o,o,o,o,z,z,z,z,z,z]
def q16_46 : Array Bool := let o := true; let z := false; #[o,o,o,o,o,o,o,o,o,o,o,o,o,o,o,o,o,o,o,o,o,o,o,o,o,o,o,o,o,o,o,o,o,o,o,o,o,o,o,o,o,o,o,o,o,o,z,z,z,z,z]
def q16_47 : Array Bool := let o := true; let z := false; #[o,o,o,o,o,o,o,o,o,o,o,o,o,o,o,o,o,o,o,o,o,o,o,o,o,o,o,o,o,o,o,o,o,o,o,o,o,o,o,o,o,o,o,o,o,o,o,z,z,z,z]
def q16_48 : Array Bool := let o := true; let z := false; #[o,o,o,o,o,o,o,o,o,o,o,o,o,o,o,o,o,o,o,o,o,o,o,o,o,o,o,o,o,o,o,o,o,o,o,o,o,o,o,o,o,o,o,o,o,o,o,o,z,z,z]
def q16_49 : Array Bool := let o := true; let z := false; #[o,o,o,o,o,o,o,o,o,o,o,o,o,o,o,o,o,o,o,o,o,o,o,o,o,o,o,o,o,o,o,o,o,o,o,o,o,o,o,o,o,o,o,o,o,o,o,o,o,z,z]
def q16_50 : Array Bool := let o := true; let z := false; #[o,o,o,o,o,o,o,o,o,o,o,o,o,o,o,o,o,o,o,o,o,o,o,o,o,o,o,o,o,o,o,o,o,o,o,o,o,o,o,o,o,o,o,o,o,o,o,o,o,o,z]
def q16_51 : Array Bool := let o := true; let z := false; #[o,o,o,o,o,o,o,o,o,o,o,o,o,o,o,o,o,o,o,o,o,o,o,o,o,o,o,o,o,o,o,o,o,o,o,o,o,o,o,o,o,o,o,o,o,o,o,o,o,o,o]
/-! ### shuttlecocklaw05_BatchTells: function 3 -/
def shuttlecocklaw05_BatchTells.j0 : Nat → ByteArray → Int → Bool → Int → Int → Int → ByteArray → Option (Bool)
 | 0, _, _, _, _, _, _, _ => none
 | k + 1, x1, x2, x29, x517000, x517001, x517002, x517003 => if x29 = true then ((shuttlecocklaw05_fixed.f k).bind fun t517 => (some t517)) else ((batch_Decode.f k x1 x2).bind fun bt518 => ((shuttlecockref05_Decode.f k x1 x2).bind fun bt525 => ((batch_Events.f k x517000 x517001 x517002 x517003).bind fun bt532 => ((shuttlecockref05_Events.f k x517000 x517001 x517002 x517003).bind fun bt540 => ((shuttlecocklaw05_fixed.f k).bind fun t548 => (if t548 = true then ((batch_May.f x517000 x517001 x517002 x517003).bind fun t549 => ((shuttlecockref05_May.f x517000 x517001 x517002 x517003).bind fun t550 => (if (t549 == t550) = true then ((batch_Encode.f k x517000 x517001 x517002 x517003).bind fun t551 => ((shuttlecockref05_Encode.f k x517000 x517001 x517002 x517003).bind fun t552 => (if t551.toList = t552.toList then (if (bt518.1 == bt525.1 && (bt518.2.1 == bt525.2.1 && (bt518.2.2.1 == bt525.2.2.1 && (bt518.2.2.2.1.toList == bt525.2.2.2.1.toList)))) = true then (if bt518.2.2.2.2.1 = bt525.2.2.2.2.1 then (if bt518.2.2.2.2.2 = bt525.2.2.2.2.2 then ((shuttlecockref04_All.f k bt532.1 bt540.1).bind fun t553 => (if t553 = true then ((shuttlecockref01_Ints.f k bt532.2.1 bt540.2.1).bind fun t554 => (if t554 = true then (if bt532.2.2.1 = bt540.2.2.1 then (some (bt532.2.2.2 == bt540.2.2.2)) else (none)) else (none))) else (none))) else (none)) else (none)) else (none)) else (none)))) else (none)))) else (none)))))))
def shuttlecocklaw05_BatchTells.f (k : Nat) (a0_0 : Int) (a0_1 : Int) (a0_2 : Int) (a0_3 : ByteArray) (a1 : ByteArray) (a2 : Int) : Option (Bool) := if (a0_3.size : Int) > 3000 then (shuttlecocklaw05_BatchTells.j0 k a1 a2 true a0_0 a0_1 a0_2 a0_3) else (shuttlecocklaw05_BatchTells.j0 k a1 a2 (decide ((a1.size : Int) > 5000)) a0_0 a0_1 a0_2 a0_3)
theorem shuttlecocklaw05_BatchTells.mono_l : ∀ k, (∀ y0 y1 y2 y3 y4 y5 y6, LeO (shuttlecocklaw05_BatchTells.j0 k y0 y1 y2 y3 y4 y5 y6) (shuttlecocklaw05_BatchTells.j0 (k + 1) y0 y1 y2 y3 y4 y5 y6))
 | 0 => fun _ _ _ _ _ _ _ r h => by simp [shuttlecocklaw05_BatchTells.j0] at h
 | k + 1 => by
  have ih0 := shuttlecocklaw05_BatchTells.mono_l k
  ·
   intro y0 y1 y2 y3 y4 y5 y6
   unfold shuttlecocklaw05_BatchTells.j0
   repeat' first
   | (with_reducible exact ih0 _ _ _ _ _ _ _)
   | (with_reducible exact batch_Decode.mono _ _ _)
   | (with_reducible exact batch_Encode.mono _ _ _ _ _)
   | (with_reducible exact batch_Events.mono _ _ _ _ _)
   | (with_reducible exact shuttlecocklaw05_fixed.mono _)
   | (with_reducible exact shuttlecockref01_Ints.mono _ _ _)
   | (with_reducible exact shuttlecockref04_All.mono _ _ _)
   | (with_reducible exact shuttlecockref05_Decode.mono _ _ _)
   | (with_reducible exact shuttlecockref05_Encode.mono _ _ _ _ _)
   | (with_reducible exact shuttlecockref05_Events.mono _ _ _ _ _)
   | (with_reducible exact LeO.refl _)
   | (with_reducible exact LeO.none _)
   | (with_reducible refine LeO.ite ?_ ?_)
   | (with_reducible refine LeO.bind ?_ (fun _ => ?_))
   | exact LeO.none _
   | refine LeO.ite ?_ ?_
   | refine LeO.bind ?_ (fun _ => ?_)
theorem shuttlecocklaw05_BatchTells.mono : ∀ a0 a1 a2 a3 a4 a5 k, LeO (shuttlecocklaw05_BatchTells.f k a0 a1 a2 a3 a4 a5) (shuttlecocklaw05_BatchTells.f (k + 1) a0 a1 a2 a3 a4 a5) := by
 intro a0 a1 a2 a3 a4 a5 k
 have ih0 := shuttlecocklaw05_BatchTells.mono_l k
 unfold shuttlecocklaw05_BatchTells.f
 repeat' first
   | (with_reducible exact ih0 _ _ _ _ _ _ _)
   | (with_reducible exact batch_Decode.mono _ _ _)
   | (with_reducible exact batch_Encode.mono _ _ _ _ _)
   | (with_reducible exact batch_Events.mono _ _ _ _ _)
   | (with_reducible exact shuttlecocklaw05_fixed.mono _)
   | (with_reducible exact shuttlecockref01_Ints.mono _ _ _)
   | (with_reducible exact shuttlecockref04_All.mono _ _ _)
   | (with_reducible exact shuttlecockref05_Decode.mono _ _ _)
   | (with_reducible exact shuttlecockref05_Encode.mono _ _ _ _ _)
   | (with_reducible exact shuttlecockref05_Events.mono _ _ _ _ _)
   | (with_reducible exact LeO.refl _)
   | (with_reducible exact LeO.none _)
   | (with_reducible refine LeO.ite ?_ ?_)
   | (with_reducible refine LeO.bind ?_ (fun _ => ?_))
   | exact LeO.none _
   | refine LeO.ite ?_ ?_
   | refine LeO.bind ?_ (fun _ => ?_)
def shuttlecocklaw05_BatchTells.T7 : Bool × List (List Nat × List Nat) := (true, [([], []), ([0, 0], [0]), ([1], [1]), ([2, 1, 1], [1, 2]), ([1], [1]), ([4, 3, 1], [1, 4]), ([3, 5, 1], [1, 3, 5]), ([1, 6], [1, 6]), ([7, 5], [7]), ([8], [8]), ([9, 8, 8], [8, 9]), ([8], [8]), ([11, 10, 8], [8, 11]), ([10, 12, 8], [8, 10, 12]), ([8, 13], [8, 13]), ([14, 12], [14]), ([15], [15]), ([15], [15]), ([16, 17, 15], [15, 16, 17]), ([15, 18], [15, 18]), ([19, 15], [19]), ([20], [20]), ([20], [20]), ([21, 22, 20], [20, 21, 22]), ([20, 23], [20, 23]), ([24, 20], [24]), ([25], [25]), ([25], [25]), ([26, 27, 25], [25, 26, 27]), ([25, 28], [25, 28]), ([29, 25], [29]), ([30], [30]), ([30], [30]), ([31, 32, 30, 30], [30, 31, 32]), ([30, 33], [30, 33]), ([34, 33], [34]), ([35], [35]), ([35], [35]), ([36, 37, 35, 35], [35, 36, 37]), ([35, 38], [35, 38]), ([39, 38], [39]), ([40], [40]), ([40], [40]), ([41, 42, 40], [40, 41, 42]), ([40, 43], [40, 43]), ([44, 40], [44]), ([45], [45]), ([45], [45]), ([46, 47, 45], [45, 46, 47]), ([45, 48], [45, 48]), ([49, 45, 0, 1, 2, 3, 4, 5, 6, 7, 8, 9, 10, 11, 12, 13, 14, 15, 16, 17, 18, 19, 20, 21, 22, 23, 24, 25, 26, 27, 28, 29, 30, 31, 32, 33, 34, 35, 36, 37, 38, 39, 40, 41, 42, 43, 44, 45, 46, 47, 48, 49], [49])])
def shuttlecocklaw05_BatchTells.B7 : List Nat := [0, 1, 3, 7, 3, 31, 63, 127, 255, 511, 1023, 511, 4095, 8191, 16383, 32767, 65535, 65535, 262143, 524287, 1048575, 2097151, 2097151, 8388607, 16777215, 33554431, 67108863, 67108863, 268435455, 536870911, 1073741823, 2147483647, 2147483647, 8589934591, 17179869183, 34359738367, 68719476735, 68719476735, 274877906943, 549755813887, 1099511627775, 2199023255551, 2199023255551, 8796093022207, 17592186044415, 35184372088831, 70368744177663, 70368744177663, 281474976710655, 562949953421311, 1125899906842623]
theorem shuttlecocklaw05_BatchTells.tab7 : rtab .any (opsOf Try.f3 7) = shuttlecocklaw05_BatchTells.T7 := by kernel_rfl
theorem shuttlecocklaw05_BatchTells.bits7 : waitsOk shuttlecocklaw05_BatchTells.T7.2 shuttlecocklaw05_BatchTells.B7 = true := by kernel_rfl
set_option maxHeartbeats 8000000 in
set_option maxRecDepth 100000 in
theorem shuttlecocklaw05_BatchTells.calls (k : Nat) (a0_0 : Int) (a0_1 : Int) (a0_2 : Int) (a0_3 : ByteArray) (a1 : ByteArray) (a2 : Int) (r : Bool) (w : World) (h : shuttlecocklaw05_BatchTells.f k a0_0 a0_1 a0_2 a0_3 a1 a2 = some r) :
  Calls Try.prog 3 #[.agg #[.int .i64 a0_0, .int .i64 a0_1, .int .i64 a0_2, .string a0_3], .string a1, .int .i64 a2] w fun e w' => e = .returned (.bool r) ∧ Below w.heap.size w w' := by
 have hu23 := Try.underlying23
 have HB := Am (Below.refl w.heap.size w)
 have H : (if (a0_3.size : Int) > 3000 then (shuttlecocklaw05_BatchTells.j0 k a1 a2 true a0_0 a0_1 a0_2 a0_3) else (shuttlecocklaw05_BatchTells.j0 k a1 a2 (decide ((a1.size : Int) > 5000)) a0_0 a0_1 a0_2 a0_3)) = some r := h
 clear h
 have HC4 := Am H
 clear H
 go_enter Try.func3, Try.ntmps3
 go_upto_region 1 with (first | ((with_reducible refine gate_dst (N := 3) rfl ?_); (try (refine gate_guard (by rfl) ?_; dsimp only)); refine box_event ?hg (N := 3) ?hd (cs := #[.int .i64 a0_0, .int .i64 a0_1, .int .i64 a0_2, .string a0_3]) (t := 23) ?hr ?_; (case hd => rfl); (case hg => rfl); (case hr => first | (go_simp; done) | (go_simp; rfl)); intro gb516 hg w5 hbox hb; have BK516 := Am (hbox); have GW516 := Am ((by rw [hg]; exact (below_size (by repeat (first | (with_reducible first | exact HB.out | apply bl | apply pN | apply b1) | exact HB.out | exact HBo.out))) : w.heap.size ≤ gb516)); have GE516 := GW516; replace HB := Am (below_step (by repeat (first | (with_reducible first | exact HB.out | apply bl | apply pN | apply b1) | exact HB.out | exact HBo.out)) hb); clear hb hbox hg))
 (try simp only [Act.put, sI, sZ, sS])
 go_cut [29] (fun v29 wc => ∃ (kq : Nat) (x29_3 : Bool), v29 = .bool x29_3 ∧ Aside0 (shuttlecocklaw05_BatchTells.j0 kq a1 a2 x29_3 a0_0 a0_1 a0_2 a0_3 = some r) ∧ Aside0 (kq ≤ k) ∧ Aside0 (wc.heap[gb516]? = some (.cells #[.int .i64 a0_0, .int .i64 a0_1, .int .i64 a0_2, .string a0_3] 23 (0, 0))) ∧ Aside0 (Below w.heap.size w wc))
 case first =>
  have H := HC4.out
  clear HC4
  by_cases c6 : (a0_3.size : Int) > 3000
  ·
   rw [if_pos c6] at H
   have c6b0 : decide (3000 < (a0_3.size : Int)) = true := decide_eq_true c6
   have c6b1 : decide (3000 < a0_3.size) = true := decide_eq_true (by omega)
   clear c6
   (first | rw [c6b0] | (simp only [i64_w, i32_w]; rw [c6b0]) | skip)
   have H' := Am H
   clear H
   have hcz7_0 := Own.bc2 BK516.out 0
   have hcz7_1 := Own.bc2 BK516.out 1
   have hcz7_2 := Own.bc2 BK516.out 2
   have hcz7_3 := Own.bc2 BK516.out 3
   have hfz7_0 := bf BK516.out 0
   have hfz7_1 := bf BK516.out 1
   have hfz7_2 := bf BK516.out 2
   have hfz7_3 := bf BK516.out 3
   go_wp2
   go_meet
   case rel => exact ⟨_, (true), (by first | rfl | (simp; done) | (simp [*]; done)), H', ⟨by first | omega | exact Nat.le_refl _⟩, ⟨by (with_reducible repeat (first|apply bn|apply bd|apply ba)); exact BK516.out⟩, ⟨by repeat (first | (with_reducible first | exact HB.out | apply bl | apply pN | apply b1 | refine bs ?_ GE516.out) | exact HB.out | exact HBo.out)⟩⟩
  ·
   rw [if_neg c6] at H
   have c6b0 : decide (3000 < (a0_3.size : Int)) = false := decide_eq_false c6
   have c6b1 : decide (3000 < a0_3.size) = false := decide_eq_false (by omega)
   clear c6
   (first | rw [c6b0] | (simp only [i64_w, i32_w]; rw [c6b0]) | skip)
   have H' := Am H
   clear H
   have hcz8_0 := Own.bc2 BK516.out 0
   have hcz8_1 := Own.bc2 BK516.out 1
   have hcz8_2 := Own.bc2 BK516.out 2
   have hcz8_3 := Own.bc2 BK516.out 3
   have hfz8_0 := bf BK516.out 0
   have hfz8_1 := bf BK516.out 1
   have hfz8_2 := bf BK516.out 2
   have hfz8_3 := bf BK516.out 3
   go_wp2
   go_meet
   case rel => exact ⟨_, (decide ((a1.size : Int) > 5000)), (by first | rfl | (simp; done) | (simp [*]; done)), H', ⟨by first | omega | exact Nat.le_refl _⟩, ⟨by (with_reducible repeat (first|apply bn|apply bd|apply ba)); exact BK516.out⟩, ⟨by repeat (first | (with_reducible first | exact HB.out | apply bl | apply pN | apply b1 | refine bs ?_ GE516.out) | exact HB.out | exact HBo.out)⟩⟩
 case rest =>
  clear HC4
  try clear p2
  try clear c3
  try clear c6
  try clear c6b0
  try clear c6b1
  try clear hcz7_0
  try clear hcz7_1
  try clear hcz7_2
  try clear hcz7_3
  try clear hcz8_0
  try clear hcz8_1
  try clear hcz8_2
  try clear hcz8_3
  try clear hfz7_0
  try clear hfz7_1
  try clear hfz7_2
  try clear hfz7_3
  try clear hfz8_0
  try clear hfz8_1
  try clear hfz8_2
  try clear hfz8_3
  obtain ⟨kq, x29_3, rfl, HA, HJ3, BK516, HB⟩ := hcut
  cases kq with
  | zero => exact absurd HA.out (by simp [shuttlecocklaw05_BatchTells.j0])
  | succ kj3 =>
   have H := HA.out
   clear HA
   simp only [shuttlecocklaw05_BatchTells.j0] at H
   by_cases c9 : x29_3 = true
   ·
    subst c9
    rw [if_pos rfl] at H
    replace H := ob H
    obtain ⟨t517, A100, H⟩ := H
    (try dsimp only at H)
    have A10 := Am A100
    clear A100
    obtain rfl := Option.some.inj H
    go_wp2_with (first | ((with_reducible refine gate_callee (f := 8) rfl ?_); refine Own.gL_ (some 30) Try.func8 (#[]) (h := ?_); (with_reducible refine (shuttlecocklaw05_fixed.calls kj3  t517 _ A10.out).mono ?_); rintro e w11 ⟨rfl, hb⟩; refine ⟨_, rfl, ?_⟩; replace BK516 := Am (blk_below (g := gb516) (o := .cells #[.int .i64 a0_0, .int .i64 a0_1, .int .i64 a0_2, .string a0_3] 23 (0, 0)) (by (with_reducible repeat (first|apply bn|apply bd|apply ba)); exact BK516.out) hb); replace HB := Am (below_step (by repeat (first | (with_reducible first | exact HB.out | apply bl | apply pN | apply b1 | refine bs ?_ GE516.out) | exact HB.out | exact HBo.out)) hb); clear hb))
    go_ret
    exact ⟨by first | rfl | (simp <;> rfl) | (simp [*] <;> rfl) | (simp [Aid.ne_nil, Aid.eq_nil]; done), by repeat (first | (with_reducible first | exact HB.out | apply bl | apply pN | apply b1 | refine bs ?_ GE516.out) | exact HB.out | exact HBo.out)⟩
   ·
    replace c9 := Bool.eq_false_iff.mpr c9
    subst c9
    rw [if_neg (show ¬ (false = true) by decide)] at H
    replace H := ob H
    obtain ⟨⟨t518, t519, t520, t521, t522, t523⟩, A120, H⟩ := H
    (try dsimp only at H)
    have A12 := Am A120
    clear A120
    replace H := ob H
    obtain ⟨⟨t525, t526, t527, t528, t529, t530⟩, A130, H⟩ := H
    (try dsimp only at H)
    have A13 := Am A130
    clear A130
    replace H := ob H
    obtain ⟨⟨t532, t535, t538, t539⟩, A140, H⟩ := H
    (try dsimp only at H)
    have A14 := Am A140
    clear A140
    replace H := ob H
    obtain ⟨⟨t540, t543, t546, t547⟩, A150, H⟩ := H
    (try dsimp only at H)
    have A15 := Am A150
    clear A150
    replace H := ob H
    obtain ⟨t548, A160, H⟩ := H
    (try dsimp only at H)
    have A16 := Am A160
    clear A160
    by_cases c17 : t548 = true
    ·
     subst c17
     rw [if_pos rfl] at H
     replace H := ob H
     obtain ⟨t549, A180, H⟩ := H
     (try dsimp only at H)
     have A18 := Am A180
     clear A180
     replace H := ob H
     obtain ⟨t550, A190, H⟩ := H
     (try dsimp only at H)
     have A19 := Am A190
     clear A190
     by_cases c20 : (t549 == t550) = true
     ·
      rw [if_pos c20] at H
      have c20b0 : (t549 == t550) = true := c20
      (try (have c20b1 : decide (t549 = t550) = true := by simpa using c20))
      (try (have c20b2 : (t549 == t550) = true := by simpa using c20))
      clear c20
      replace H := ob H
      obtain ⟨t551, A210, H⟩ := H
      (try dsimp only at H)
      have A21 := Am A210
      clear A210
      replace H := ob H
      obtain ⟨t552, A220, H⟩ := H
      (try dsimp only at H)
      have A22 := Am A220
      clear A220
      by_cases c23 : t551.toList = t552.toList
      ·
       rw [if_pos c23] at H
       have c23b0 : (t551.toList == t552.toList) = true := beq_iff_eq.mpr c23
       have c23b1 : (t551.toList != t552.toList) = false := bne_eq_false_iff_eq.mpr c23
       clear c23
       by_cases c24 : (t518 == t525 && (t519 == t526 && (t520 == t527 && (t521.toList == t528.toList)))) = true
       ·
        rw [if_pos c24] at H
        have c24b0 : (t518 == t525 && (t519 == t526 && (t520 == t527 && (t521.toList == t528.toList)))) = true := c24
        try have c24b7 : (t518 = t525 ∧ t519 = t526 ∧ t520 = t527 ∧ t521.toList = t528.toList) = True := eq_true (by simpa using c24)
        (try (have c24b1 : decide (t518 = t525 && (t519 == t526 && (t520 == t527 && (t521.toList == t528.toList)))) = true := by simpa using c24))
        (try (have c24b2 : (t518 == t525 && (t519 == t526 && (t520 == t527 && (t521.toList == t528.toList)))) = true := by simpa using c24))
        clear c24
        by_cases c25 : t522 = t529
        ·
         rw [if_pos c25] at H
         have c25b0 : (t522 == t529) = true := beq_iff_eq.mpr c25
         have c25b1 : (t522 != t529) = false := bne_eq_false_iff_eq.mpr c25
         clear c25
         by_cases c26 : t523 = t530
         ·
          rw [if_pos c26] at H
          have c26b0 : (t523 == t530) = true := beq_iff_eq.mpr c26
          have c26b1 : (t523 != t530) = false := bne_eq_false_iff_eq.mpr c26
          clear c26
          replace H := ob H
          obtain ⟨t553, A270, H⟩ := H
          (try dsimp only at H)
          have A27 := Am A270
          clear A270
          by_cases c28 : t553 = true
          ·
           subst c28
           rw [if_pos rfl] at H
           replace H := ob H
           obtain ⟨t554, A290, H⟩ := H
           (try dsimp only at H)
           have A29 := Am A290
           clear A290
           by_cases c30 : t554 = true
           ·
            subst c30
            rw [if_pos rfl] at H
            by_cases c31 : t538 = t546
            ·
             rw [if_pos c31] at H
             have c31b0 : (t538 == t546) = true := beq_iff_eq.mpr c31
             have c31b1 : (t538 != t546) = false := bne_eq_false_iff_eq.mpr c31
             clear c31
             obtain rfl := Option.some.inj H
             try go_wp2_with (first | ((with_reducible refine gate_callee (f := 9) rfl ?_); refine Own.gL_ (some 34) Try.func9 (#[.string a1, .int .i64 a2]) (h := ?_); (with_reducible refine (batch_Decode.calls kj3 a1 a2 t518 t519 t520 t521 t522 t523 _ A12.out).mono ?_); rintro e w32 ⟨rfl, hb⟩; refine ⟨_, rfl, ?_⟩; replace BK516 := Am (blk_below (g := gb516) (o := .cells #[.int .i64 a0_0, .int .i64 a0_1, .int .i64 a0_2, .string a0_3] 23 (0, 0)) (by (with_reducible repeat (first|apply bn|apply bd|apply ba)); exact BK516.out) hb); replace HB := Am (below_step (by repeat (first | (with_reducible first | exact HB.out | apply bl | apply pN | apply b1 | refine bs ?_ GE516.out) | exact HB.out | exact HBo.out)) hb); clear hb) | ((with_reducible refine gate_dst (N := 7) rfl ?_); (try (refine gate_guard (by rfl) ?_; dsimp only)); refine box_event ?hg (N := 7) ?hd (cs := #[.int .i64 0, .int .i64 0, .int .i64 0, .string (⟨#[]⟩ : ByteArray)]) (t := 23) ?hr ?_; (case hd => rfl); (case hg => rfl); (case hr => first | (go_simp; done) | (go_simp; rfl)); intro gb524 hg w33 hbox hb; have BK524 := Am (hbox); have GW524 := Am ((by rw [hg]; exact (below_size (by repeat (first | (with_reducible first | exact HB.out | apply bl | apply pN | apply b1 | refine bs ?_ GE516.out) | exact HB.out | exact HBo.out))) : w.heap.size ≤ gb524)); have GE524 := GW524; have NB516_524 := Am ((by rw [hg]; exact Nat.ne_of_lt (blk_lt (g := gb516) (o := .cells #[.int .i64 a0_0, .int .i64 a0_1, .int .i64 a0_2, .string a0_3] 23 (0, 0)) (by (with_reducible repeat (first|apply bn|apply bd|apply ba)); exact BK516.out)) : gb516 ≠ gb524)); have NB524_516 := Am NB516_524.out.symm; replace BK516 := Am (blk_below (g := gb516) (o := .cells #[.int .i64 a0_0, .int .i64 a0_1, .int .i64 a0_2, .string a0_3] 23 (0, 0)) (by (with_reducible repeat (first|apply bn|apply bd|apply ba)); exact BK516.out) hb); replace HB := Am (below_step (by repeat (first | (with_reducible first | exact HB.out | apply bl | apply pN | apply b1 | refine bs ?_ GE516.out) | exact HB.out | exact HBo.out)) hb); clear hb hbox hg; have hnb34 := NB524_516.out; have hnc34 := NB516_524.out; have hcz35_0 := Own.bc2 BK524.out 0; have hcz35_1 := Own.bc2 BK524.out 1; have hcz35_2 := Own.bc2 BK524.out 2; have hcz35_3 := Own.bc2 BK524.out 3; have hfz35_0 := bf BK524.out 0; have hfz35_1 := bf BK524.out 1; have hfz35_2 := bf BK524.out 2; have hfz35_3 := bf BK524.out 3) | ((with_reducible refine gate_callee (f := 10) rfl ?_); refine Own.gL_ (some 41) Try.func10 (#[.string a1, .int .i64 a2]) (h := ?_); (with_reducible refine (shuttlecockref05_Decode.calls kj3 a1 a2 t525 t526 t527 t528 t529 t530 _ A13.out).mono ?_); rintro e w36 ⟨rfl, hb⟩; refine ⟨_, rfl, ?_⟩; replace BK516 := Am (blk_below (g := gb516) (o := .cells #[.int .i64 a0_0, .int .i64 a0_1, .int .i64 a0_2, .string a0_3] 23 (0, 0)) (by (with_reducible repeat (first|apply bn|apply bd|apply ba)); refine blk_far ?_ NB516_524.out _; (with_reducible repeat (first|apply bn|apply bd|apply ba)); refine blk_far ?_ NB516_524.out _; (with_reducible repeat (first|apply bn|apply bd|apply ba)); refine blk_far ?_ NB516_524.out _; (with_reducible repeat (first|apply bn|apply bd|apply ba)); refine blk_far ?_ NB516_524.out _; (with_reducible repeat (first|apply bn|apply bd|apply ba)); exact BK516.out) hb); replace BK524 := Am (blk_below (g := gb524) (o := .cells #[.int .i64 t518, .int .i64 t519, .int .i64 t520, .string t521] 23 (0, 0)) (by (with_reducible repeat (first|apply bn|apply bd|apply ba)); refine blk_put (cs := #[.int .i64 t518, .int .i64 t519, .int .i64 t520, .string (⟨#[]⟩ : ByteArray)]) ?_ 3 _ rfl; (with_reducible repeat (first|apply bn|apply bd|apply ba)); refine blk_put (cs := #[.int .i64 t518, .int .i64 t519, .int .i64 0, .string (⟨#[]⟩ : ByteArray)]) ?_ 2 _ rfl; (with_reducible repeat (first|apply bn|apply bd|apply ba)); refine blk_put (cs := #[.int .i64 t518, .int .i64 0, .int .i64 0, .string (⟨#[]⟩ : ByteArray)]) ?_ 1 _ rfl; (with_reducible repeat (first|apply bn|apply bd|apply ba)); refine blk_put (cs := #[.int .i64 0, .int .i64 0, .int .i64 0, .string (⟨#[]⟩ : ByteArray)]) ?_ 0 _ rfl; (with_reducible repeat (first|apply bn|apply bd|apply ba)); exact BK524.out) hb); replace HB := Am (below_step (by repeat (first | (with_reducible first | exact HB.out | apply bl | apply pN | apply b1 | refine bs ?_ GE516.out | refine bs ?_ GE524.out) | exact HB.out | exact HBo.out)) hb); clear hb) | ((with_reducible refine gate_dst (N := 10) rfl ?_); (try (refine gate_guard (by rfl) ?_; dsimp only)); refine box_event ?hg (N := 10) ?hd (cs := #[.int .i64 0, .int .i64 0, .int .i64 0, .string (⟨#[]⟩ : ByteArray)]) (t := 23) ?hr ?_; (case hd => rfl); (case hg => rfl); (case hr => first | (go_simp; done) | (go_simp; rfl)); intro gb531 hg w37 hbox hb; have BK531 := Am (hbox); have GW531 := Am ((by rw [hg]; exact (below_size (by repeat (first | (with_reducible first | exact HB.out | apply bl | apply pN | apply b1 | refine bs ?_ GE516.out | refine bs ?_ GE524.out) | exact HB.out | exact HBo.out))) : w.heap.size ≤ gb531)); have GE531 := GW531; have NB516_531 := Am ((by rw [hg]; exact Nat.ne_of_lt (blk_lt (g := gb516) (o := .cells #[.int .i64 a0_0, .int .i64 a0_1, .int .i64 a0_2, .string a0_3] 23 (0, 0)) (by (with_reducible repeat (first|apply bn|apply bd|apply ba)); exact BK516.out)) : gb516 ≠ gb531)); have NB531_516 := Am NB516_531.out.symm; have NB524_531 := Am ((by rw [hg]; exact Nat.ne_of_lt (blk_lt (g := gb524) (o := .cells #[.int .i64 t518, .int .i64 t519, .int .i64 t520, .string t521] 23 (0, 0)) (by (with_reducible repeat (first|apply bn|apply bd|apply ba)); exact BK524.out)) : gb524 ≠ gb531)); have NB531_524 := Am NB524_531.out.symm; replace BK516 := Am (blk_below (g := gb516) (o := .cells #[.int .i64 a0_0, .int .i64 a0_1, .int .i64 a0_2, .string a0_3] 23 (0, 0)) (by (with_reducible repeat (first|apply bn|apply bd|apply ba)); exact BK516.out) hb); replace BK524 := Am (blk_below (g := gb524) (o := .cells #[.int .i64 t518, .int .i64 t519, .int .i64 t520, .string t521] 23 (0, 0)) (by (with_reducible repeat (first|apply bn|apply bd|apply ba)); exact BK524.out) hb); replace HB := Am (below_step (by repeat (first | (with_reducible first | exact HB.out | apply bl | apply pN | apply b1 | refine bs ?_ GE516.out | refine bs ?_ GE524.out) | exact HB.out | exact HBo.out)) hb); clear hb hbox hg; have hnb38 := NB531_516.out; have hnc38 := NB516_531.out; have hnb39 := NB531_524.out; have hnc39 := NB524_531.out; have hcz40_0 := Own.bc2 BK531.out 0; have hcz40_1 := Own.bc2 BK531.out 1; have hcz40_2 := Own.bc2 BK531.out 2; have hcz40_3 := Own.bc2 BK531.out 3; have hfz40_0 := bf BK531.out 0; have hfz40_1 := bf BK531.out 1; have hfz40_2 := bf BK531.out 2; have hfz40_3 := bf BK531.out 3; have hcz41_0 := Own.bc2 BK516.out 0; have hcz41_1 := Own.bc2 BK516.out 1; have hcz41_2 := Own.bc2 BK516.out 2; have hcz41_3 := Own.bc2 BK516.out 3; have hfz41_0 := bf BK516.out 0; have hfz41_1 := bf BK516.out 1; have hfz41_2 := bf BK516.out 2; have hfz41_3 := bf BK516.out 3) | ((with_reducible refine gate_callee (f := 11) rfl ?_); refine Own.gL_ (some 47) Try.func11 (#[.agg #[.int .i64 a0_0, .int .i64 a0_1, .int .i64 a0_2, .string a0_3]]) (h := ?_); (with_reducible refine (batch_Events.calls kj3 a0_0 a0_1 a0_2 a0_3 t532 t535 t538 t539 _ A14.out).mono ?_); rintro e w42 ⟨v533, v536, rfl, ho0, ho1, hb⟩; refine ⟨_, rfl, ?_⟩; have HO534 := Am (Kd.S_lower ho0 (below_size (by repeat (first | (with_reducible first | exact HB.out | apply bl | apply pN | apply b1 | refine bs ?_ GE516.out | refine bs ?_ GE524.out | refine bs ?_ GE531.out) | exact HB.out | exact HBo.out)))); have HO537 := Am (Kd.R_lower ho1 (below_size (by repeat (first | (with_reducible first | exact HB.out | apply bl | apply pN | apply b1 | refine bs ?_ GE516.out | refine bs ?_ GE524.out | refine bs ?_ GE531.out) | exact HB.out | exact HBo.out)))); replace BK516 := Am (blk_below (g := gb516) (o := .cells #[.int .i64 a0_0, .int .i64 a0_1, .int .i64 a0_2, .string a0_3] 23 (0, 0)) (by (with_reducible repeat (first|apply bn|apply bd|apply ba)); refine blk_far ?_ NB516_531.out _; (with_reducible repeat (first|apply bn|apply bd|apply ba)); refine blk_far ?_ NB516_531.out _; (with_reducible repeat (first|apply bn|apply bd|apply ba)); refine blk_far ?_ NB516_531.out _; (with_reducible repeat (first|apply bn|apply bd|apply ba)); refine blk_far ?_ NB516_531.out _; (with_reducible repeat (first|apply bn|apply bd|apply ba)); exact BK516.out) hb); replace BK524 := Am (blk_below (g := gb524) (o := .cells #[.int .i64 t518, .int .i64 t519, .int .i64 t520, .string t521] 23 (0, 0)) (by (with_reducible repeat (first|apply bn|apply bd|apply ba)); refine blk_far ?_ NB524_531.out _; (with_reducible repeat (first|apply bn|apply bd|apply ba)); refine blk_far ?_ NB524_531.out _; (with_reducible repeat (first|apply bn|apply bd|apply ba)); refine blk_far ?_ NB524_531.out _; (with_reducible repeat (first|apply bn|apply bd|apply ba)); refine blk_far ?_ NB524_531.out _; (with_reducible repeat (first|apply bn|apply bd|apply ba)); exact BK524.out) hb); replace BK531 := Am (blk_below (g := gb531) (o := .cells #[.int .i64 t525, .int .i64 t526, .int .i64 t527, .string t528] 23 (0, 0)) (by (with_reducible repeat (first|apply bn|apply bd|apply ba)); refine blk_put (cs := #[.int .i64 t525, .int .i64 t526, .int .i64 t527, .string (⟨#[]⟩ : ByteArray)]) ?_ 3 _ rfl; (with_reducible repeat (first|apply bn|apply bd|apply ba)); refine blk_put (cs := #[.int .i64 t525, .int .i64 t526, .int .i64 0, .string (⟨#[]⟩ : ByteArray)]) ?_ 2 _ rfl; (with_reducible repeat (first|apply bn|apply bd|apply ba)); refine blk_put (cs := #[.int .i64 t525, .int .i64 0, .int .i64 0, .string (⟨#[]⟩ : ByteArray)]) ?_ 1 _ rfl; (with_reducible repeat (first|apply bn|apply bd|apply ba)); refine blk_put (cs := #[.int .i64 0, .int .i64 0, .int .i64 0, .string (⟨#[]⟩ : ByteArray)]) ?_ 0 _ rfl; (with_reducible repeat (first|apply bn|apply bd|apply ba)); exact BK531.out) hb); replace HB := Am (below_step (by repeat (first | (with_reducible first | exact HB.out | apply bl | apply pN | apply b1 | refine bs ?_ GE516.out | refine bs ?_ GE524.out | refine bs ?_ GE531.out) | exact HB.out | exact HBo.out)) hb); (try clear hb); (try clear hb2); (try clear hk); (try clear hi); (try clear ho0); (try clear ho1); have hcz43_0 := Own.bc2 BK516.out 0; have hcz43_1 := Own.bc2 BK516.out 1; have hcz43_2 := Own.bc2 BK516.out 2; have hcz43_3 := Own.bc2 BK516.out 3; have hfz43_0 := bf BK516.out 0; have hfz43_1 := bf BK516.out 1; have hfz43_2 := bf BK516.out 2; have hfz43_3 := bf BK516.out 3) | ((with_reducible refine gate_callee (f := 12) rfl ?_); refine Own.gL_ (some 54) Try.func12 (#[.agg #[.int .i64 a0_0, .int .i64 a0_1, .int .i64 a0_2, .string a0_3]]) (h := ?_); (with_reducible refine (shuttlecockref05_Events.calls kj3 a0_0 a0_1 a0_2 a0_3 t540 t543 t546 t547 _ A15.out).mono ?_); rintro e w44 ⟨v541, v544, rfl, ho0, ho1, hb⟩; refine ⟨_, rfl, ?_⟩; have HO542 := Am (Kd.S_lower (Kd.S_new' (Kd.S_new' ho0 (Kd.S_lt (by (with_reducible repeat (first | apply Kd.S_alloc | apply Kd.S_drewN | apply Kd.S_drew)); exact HO534.out))) (Kd.R_lt (by (with_reducible repeat (first | apply Kd.R_alloc | apply Kd.R_drewN | apply Kd.R_drew)); exact HO537.out))) (below_size (by repeat (first | (with_reducible first | exact HB.out | apply bl | apply pN | apply b1 | refine bs ?_ GE516.out | refine bs ?_ GE524.out | refine bs ?_ GE531.out) | exact HB.out | exact HBo.out)))); have HO545 := Am (Kd.R_lower (Kd.R_new' ho1 (Kd.R_lt (by (with_reducible repeat (first | apply Kd.R_alloc | apply Kd.R_drewN | apply Kd.R_drew)); exact HO537.out))) (below_size (by repeat (first | (with_reducible first | exact HB.out | apply bl | apply pN | apply b1 | refine bs ?_ GE516.out | refine bs ?_ GE524.out | refine bs ?_ GE531.out) | exact HB.out | exact HBo.out)))); replace HO534 := Am (Kd.S_mono (Kd.S_told (Kd.S_told (Kd.S_old (by (with_reducible repeat (first | apply Kd.S_alloc | apply Kd.S_drewN | apply Kd.S_drew)); exact HO534.out) hb) (Kd.S_base ho0)) (Kd.R_base ho1)) (fun _ h_ => h_.1)); replace HO537 := Am (Kd.R_elder' (by (with_reducible repeat (first | apply Kd.R_alloc | apply Kd.R_drewN | apply Kd.R_drew)); exact HO537.out) (Kd.R_base ho1) hb); replace BK516 := Am (blk_below (g := gb516) (o := .cells #[.int .i64 a0_0, .int .i64 a0_1, .int .i64 a0_2, .string a0_3] 23 (0, 0)) (by (with_reducible repeat (first|apply bn|apply bd|apply ba)); exact BK516.out) hb); replace BK524 := Am (blk_below (g := gb524) (o := .cells #[.int .i64 t518, .int .i64 t519, .int .i64 t520, .string t521] 23 (0, 0)) (by (with_reducible repeat (first|apply bn|apply bd|apply ba)); exact BK524.out) hb); replace BK531 := Am (blk_below (g := gb531) (o := .cells #[.int .i64 t525, .int .i64 t526, .int .i64 t527, .string t528] 23 (0, 0)) (by (with_reducible repeat (first|apply bn|apply bd|apply ba)); exact BK531.out) hb); replace HB := Am (below_step (by repeat (first | (with_reducible first | exact HB.out | apply bl | apply pN | apply b1 | refine bs ?_ GE516.out | refine bs ?_ GE524.out | refine bs ?_ GE531.out) | exact HB.out | exact HBo.out)) hb); (try clear hb); (try clear hb2); (try clear hk); (try clear hi); (try clear ho0); (try clear ho1)))
             replace HO534 := Am (Kd.S_drew HO534.out)
             replace HO537 := Am (Kd.R_drew HO537.out)
             replace HO542 := Am (Kd.S_drew HO542.out)
             replace HO545 := Am (Kd.R_drew HO545.out)
             replace BK516 := Am (bd BK516.out)
             replace BK524 := Am (bd BK524.out)
             replace BK531 := Am (bd BK531.out)
             replace HB := Am (b1 HB.out)
             refine start_ (n := 51) (S := fun w' => w'.cell? ⟨gb516, 0, none⟩ = some (.int .i64 a0_0) ∧ w'.cell? ⟨gb516, 1, none⟩ = some (.int .i64 a0_1) ∧ w'.cell? ⟨gb516, 2, none⟩ = some (.int .i64 a0_2) ∧ w'.cell? ⟨gb516, 3, none⟩ = some (.string a0_3) ∧ w'.cell? ⟨gb524, 0, none⟩ = some (.int .i64 t518) ∧ w'.cell? ⟨gb524, 1, none⟩ = some (.int .i64 t519) ∧ w'.cell? ⟨gb524, 2, none⟩ = some (.int .i64 t520) ∧ w'.cell? ⟨gb524, 3, none⟩ = some (.string t521) ∧ w'.cell? ⟨gb531, 0, none⟩ = some (.int .i64 t525) ∧ w'.cell? ⟨gb531, 1, none⟩ = some (.int .i64 t526) ∧ w'.cell? ⟨gb531, 2, none⟩ = some (.int .i64 t527) ∧ w'.cell? ⟨gb531, 3, none⟩ = some (.string t528)) (ds := []) q16_0 (by kernel_rfl) rfl rfl ⟨(bc BK516.out 0).trans rfl, (bc BK516.out 1).trans rfl, (bc BK516.out 2).trans rfl, (bc BK516.out 3).trans rfl, (bc BK524.out 0).trans rfl, (bc BK524.out 1).trans rfl, (bc BK524.out 2).trans rfl, (bc BK524.out 3).trans rfl, (bc BK531.out 0).trans rfl, (bc BK531.out 1).trans rfl, (bc BK531.out 2).trans rfl, (bc BK531.out 3).trans rfl⟩ (fun hHeld => ?_); refine with_tabW shuttlecocklaw05_BatchTells.tab7 shuttlecocklaw05_BatchTells.bits7 (fun HT_ HW_ => ?_)
             generalize w44.drew = w45 at HO534 HO537 HO542 HO545 BK516 BK524 BK531 HB hHeld ⊢
             refine one_ (i := 0) (N := some 59) q16_1 rfl rfl (one_of HT_.out (by kernel_rfl)) (by decide) (fun K hK => ?_)
             refine goes_ Try.func8 (by kernel_rfl) rfl #[] (by rfl) rfl rfl (by (try simp only [List.map_toArray, List.map_cons, List.map_nil]); first | done | rfl | (simp only [List.length_drop, List.length_take]; rfl)) ?_
             with_reducible refine (shuttlecocklaw05_fixed.calls kj3  true _ A16.out).mono ?_
             rintro e w46 ⟨rfl, hb⟩
             refine ⟨_, rfl, ?_⟩
             replace HO534 := Am (Kd.S_below (by (with_reducible repeat (first | apply Kd.S_alloc | apply Kd.S_drewN | apply Kd.S_drew)); exact HO534.out) hb)
             replace HO537 := Am (Kd.R_below (by (with_reducible repeat (first | apply Kd.R_alloc | apply Kd.R_drewN | apply Kd.R_drew)); exact HO537.out) hb)
             replace HO542 := Am (Kd.S_below (by (with_reducible repeat (first | apply Kd.S_alloc | apply Kd.S_drewN | apply Kd.S_drew)); exact HO542.out) hb)
             replace HO545 := Am (Kd.R_below (by (with_reducible repeat (first | apply Kd.R_alloc | apply Kd.R_drewN | apply Kd.R_drew)); exact HO545.out) hb)
             replace BK516 := Am (blk_below (g := gb516) (o := .cells #[.int .i64 a0_0, .int .i64 a0_1, .int .i64 a0_2, .string a0_3] 23 (0, 0)) (by (with_reducible repeat (first|apply bn|apply bd|apply ba)); exact BK516.out) hb)
             replace BK524 := Am (blk_below (g := gb524) (o := .cells #[.int .i64 t518, .int .i64 t519, .int .i64 t520, .string t521] 23 (0, 0)) (by (with_reducible repeat (first|apply bn|apply bd|apply ba)); exact BK524.out) hb)
             replace BK531 := Am (blk_below (g := gb531) (o := .cells #[.int .i64 t525, .int .i64 t526, .int .i64 t527, .string t528] 23 (0, 0)) (by (with_reducible repeat (first|apply bn|apply bd|apply ba)); exact BK531.out) hb)
             replace HB := Am (below_step (by repeat (first | (with_reducible first | exact HB.out | apply bl | apply pN | apply b1 | refine bs ?_ GE516.out | refine bs ?_ GE524.out | refine bs ?_ GE531.out) | exact HB.out | exact HBo.out)) hb)
             (try clear hb)
             (try clear hb2)
             (try clear hk)
             (try clear hi)
             refine hK.out _ _ ⟨(bc BK516.out 0).trans rfl, (bc BK516.out 1).trans rfl, (bc BK516.out 2).trans rfl, (bc BK516.out 3).trans rfl, (bc BK524.out 0).trans rfl, (bc BK524.out 1).trans rfl, (bc BK524.out 2).trans rfl, (bc BK524.out 3).trans rfl, (bc BK531.out 0).trans rfl, (bc BK531.out 1).trans rfl, (bc BK531.out 2).trans rfl, (bc BK531.out 3).trans rfl⟩ (fun hHeld => ?_)
             clear hK K
             refine norm_ (a' := ?_) ?_ ?_
             rotate_left
             ·
              show Act.put _ (some 59) _ = _
              simp only [Act.put, sI, sZ, sS, i64_w, i32_w]
              rfl
             refine Own.pr_ 1 (some 60) q16_2 HT_ (h := ?_)
             refine Own.tk_ 2 (some 61) q16_3 HT_ HW_ hHeld (hy := by rintro w' ⟨s0, s1, s2, s3, s4, s5, s6, s7, s8, s9, s10, s11⟩; go_simp; with_reducible rfl) (h := ?_)
             refine Own.tk_ 4 (some 63) q16_4 HT_ HW_ hHeld (hy := by rintro w' ⟨s0, s1, s2, s3, s4, s5, s6, s7, s8, s9, s10, s11⟩; go_simp; with_reducible rfl) (h := ?_)
             refine one_ (i := 3) (N := some 62) q16_5 rfl rfl (one_of HT_.out (by kernel_rfl)) (by decide) (fun K hK => ?_)
             refine goes_ Try.func13 (by kernel_rfl) rfl #[.agg #[.int .i64 a0_0, .int .i64 a0_1, .int .i64 a0_2, .string a0_3]] (by rfl) rfl rfl (by (try simp only [List.map_toArray, List.map_cons, List.map_nil]); first | done | rfl | (simp only [List.length_drop, List.length_take]; rfl)) ?_
             with_reducible refine (batch_May.calls a0_0 a0_1 a0_2 a0_3 t549 _ A18.out).mono ?_
             rintro e w47 ⟨rfl, hb⟩
             refine ⟨_, rfl, ?_⟩
             replace HO534 := Am (Kd.S_below (by (with_reducible repeat (first | apply Kd.S_alloc | apply Kd.S_drewN | apply Kd.S_drew)); exact HO534.out) hb)
             replace HO537 := Am (Kd.R_below (by (with_reducible repeat (first | apply Kd.R_alloc | apply Kd.R_drewN | apply Kd.R_drew)); exact HO537.out) hb)
             replace HO542 := Am (Kd.S_below (by (with_reducible repeat (first | apply Kd.S_alloc | apply Kd.S_drewN | apply Kd.S_drew)); exact HO542.out) hb)
             replace HO545 := Am (Kd.R_below (by (with_reducible repeat (first | apply Kd.R_alloc | apply Kd.R_drewN | apply Kd.R_drew)); exact HO545.out) hb)
             replace BK516 := Am (blk_below (g := gb516) (o := .cells #[.int .i64 a0_0, .int .i64 a0_1, .int .i64 a0_2, .string a0_3] 23 (0, 0)) (by (with_reducible repeat (first|apply bn|apply bd|apply ba)); exact BK516.out) hb)
             replace BK524 := Am (blk_below (g := gb524) (o := .cells #[.int .i64 t518, .int .i64 t519, .int .i64 t520, .string t521] 23 (0, 0)) (by (with_reducible repeat (first|apply bn|apply bd|apply ba)); exact BK524.out) hb)
             replace BK531 := Am (blk_below (g := gb531) (o := .cells #[.int .i64 t525, .int .i64 t526, .int .i64 t527, .string t528] 23 (0, 0)) (by (with_reducible repeat (first|apply bn|apply bd|apply ba)); exact BK531.out) hb)
             replace HB := Am (below_step (by repeat (first | (with_reducible first | exact HB.out | apply bl | apply pN | apply b1 | refine bs ?_ GE516.out | refine bs ?_ GE524.out | refine bs ?_ GE531.out) | exact HB.out | exact HBo.out)) hb)
             (try clear hb)
             (try clear hb2)
             (try clear hk)
             (try clear hi)
             refine hK.out _ _ ⟨(bc BK516.out 0).trans rfl, (bc BK516.out 1).trans rfl, (bc BK516.out 2).trans rfl, (bc BK516.out 3).trans rfl, (bc BK524.out 0).trans rfl, (bc BK524.out 1).trans rfl, (bc BK524.out 2).trans rfl, (bc BK524.out 3).trans rfl, (bc BK531.out 0).trans rfl, (bc BK531.out 1).trans rfl, (bc BK531.out 2).trans rfl, (bc BK531.out 3).trans rfl⟩ (fun hHeld => ?_)
             clear hK K
             refine norm_ (a' := ?_) ?_ ?_
             rotate_left
             ·
              show Act.put _ (some 62) _ = _
              simp only [Act.put, sI, sZ, sS, i64_w, i32_w]
              rfl
             refine one_ (i := 5) (N := some 64) q16_6 rfl rfl (one_of HT_.out (by kernel_rfl)) (by decide) (fun K hK => ?_)
             refine goes_ Try.func14 (by kernel_rfl) rfl #[.agg #[.int .i64 a0_0, .int .i64 a0_1, .int .i64 a0_2, .string a0_3]] (by rfl) rfl rfl (by (try simp only [List.map_toArray, List.map_cons, List.map_nil]); first | done | rfl | (simp only [List.length_drop, List.length_take]; rfl)) ?_
             with_reducible refine (shuttlecockref05_May.calls a0_0 a0_1 a0_2 a0_3 t550 _ A19.out).mono ?_
             rintro e w48 ⟨rfl, hb⟩
             refine ⟨_, rfl, ?_⟩
             replace HO534 := Am (Kd.S_below (by (with_reducible repeat (first | apply Kd.S_alloc | apply Kd.S_drewN | apply Kd.S_drew)); exact HO534.out) hb)
             replace HO537 := Am (Kd.R_below (by (with_reducible repeat (first | apply Kd.R_alloc | apply Kd.R_drewN | apply Kd.R_drew)); exact HO537.out) hb)
             replace HO542 := Am (Kd.S_below (by (with_reducible repeat (first | apply Kd.S_alloc | apply Kd.S_drewN | apply Kd.S_drew)); exact HO542.out) hb)
             replace HO545 := Am (Kd.R_below (by (with_reducible repeat (first | apply Kd.R_alloc | apply Kd.R_drewN | apply Kd.R_drew)); exact HO545.out) hb)
             replace BK516 := Am (blk_below (g := gb516) (o := .cells #[.int .i64 a0_0, .int .i64 a0_1, .int .i64 a0_2, .string a0_3] 23 (0, 0)) (by (with_reducible repeat (first|apply bn|apply bd|apply ba)); exact BK516.out) hb)
             replace BK524 := Am (blk_below (g := gb524) (o := .cells #[.int .i64 t518, .int .i64 t519, .int .i64 t520, .string t521] 23 (0, 0)) (by (with_reducible repeat (first|apply bn|apply bd|apply ba)); exact BK524.out) hb)
             replace BK531 := Am (blk_below (g := gb531) (o := .cells #[.int .i64 t525, .int .i64 t526, .int .i64 t527, .string t528] 23 (0, 0)) (by (with_reducible repeat (first|apply bn|apply bd|apply ba)); exact BK531.out) hb)
             replace HB := Am (below_step (by repeat (first | (with_reducible first | exact HB.out | apply bl | apply pN | apply b1 | refine bs ?_ GE516.out | refine bs ?_ GE524.out | refine bs ?_ GE531.out) | exact HB.out | exact HBo.out)) hb)
             (try clear hb)
             (try clear hb2)
             (try clear hk)
             (try clear hi)
             refine hK.out _ _ ⟨(bc BK516.out 0).trans rfl, (bc BK516.out 1).trans rfl, (bc BK516.out 2).trans rfl, (bc BK516.out 3).trans rfl, (bc BK524.out 0).trans rfl, (bc BK524.out 1).trans rfl, (bc BK524.out 2).trans rfl, (bc BK524.out 3).trans rfl, (bc BK531.out 0).trans rfl, (bc BK531.out 1).trans rfl, (bc BK531.out 2).trans rfl, (bc BK531.out 3).trans rfl⟩ (fun hHeld => ?_)
             clear hK K
             refine norm_ (a' := ?_) ?_ ?_
             rotate_left
             ·
              show Act.put _ (some 64) _ = _
              simp only [Act.put, sI, sZ, sS, i64_w, i32_w]
              rfl
             refine Own.pr_ 6 (some 65) q16_7 HT_ (h := ?_)
             refine Own.pr_ 7 (some 66) q16_8 HT_ (h := ?_)
             refine Own.pr_ 8 (some 67) q16_9 HT_ (h := ?_)
             refine Own.tk_ 9 (some 68) q16_10 HT_ HW_ hHeld (hy := by rintro w' ⟨s0, s1, s2, s3, s4, s5, s6, s7, s8, s9, s10, s11⟩; go_simp; with_reducible rfl) (h := ?_)
             refine Own.tk_ 11 (some 70) q16_11 HT_ HW_ hHeld (hy := by rintro w' ⟨s0, s1, s2, s3, s4, s5, s6, s7, s8, s9, s10, s11⟩; go_simp; with_reducible rfl) (h := ?_)
             refine one_ (i := 10) (N := some 69) q16_12 rfl rfl (one_of HT_.out (by kernel_rfl)) (by decide) (fun K hK => ?_)
             refine goes_ Try.func15 (by kernel_rfl) rfl #[.agg #[.int .i64 a0_0, .int .i64 a0_1, .int .i64 a0_2, .string a0_3]] (by rfl) rfl rfl (by (try simp only [List.map_toArray, List.map_cons, List.map_nil]); first | done | rfl | (simp only [List.length_drop, List.length_take]; rfl)) ?_
             with_reducible refine (batch_Encode.calls kj3 a0_0 a0_1 a0_2 a0_3 t551 _ A21.out).mono ?_
             rintro e w49 ⟨rfl, hb⟩
             refine ⟨_, rfl, ?_⟩
             replace HO534 := Am (Kd.S_below (by (with_reducible repeat (first | apply Kd.S_alloc | apply Kd.S_drewN | apply Kd.S_drew)); exact HO534.out) hb)
             replace HO537 := Am (Kd.R_below (by (with_reducible repeat (first | apply Kd.R_alloc | apply Kd.R_drewN | apply Kd.R_drew)); exact HO537.out) hb)
             replace HO542 := Am (Kd.S_below (by (with_reducible repeat (first | apply Kd.S_alloc | apply Kd.S_drewN | apply Kd.S_drew)); exact HO542.out) hb)
             replace HO545 := Am (Kd.R_below (by (with_reducible repeat (first | apply Kd.R_alloc | apply Kd.R_drewN | apply Kd.R_drew)); exact HO545.out) hb)
             replace BK516 := Am (blk_below (g := gb516) (o := .cells #[.int .i64 a0_0, .int .i64 a0_1, .int .i64 a0_2, .string a0_3] 23 (0, 0)) (by (with_reducible repeat (first|apply bn|apply bd|apply ba)); exact BK516.out) hb)
             replace BK524 := Am (blk_below (g := gb524) (o := .cells #[.int .i64 t518, .int .i64 t519, .int .i64 t520, .string t521] 23 (0, 0)) (by (with_reducible repeat (first|apply bn|apply bd|apply ba)); exact BK524.out) hb)
             replace BK531 := Am (blk_below (g := gb531) (o := .cells #[.int .i64 t525, .int .i64 t526, .int .i64 t527, .string t528] 23 (0, 0)) (by (with_reducible repeat (first|apply bn|apply bd|apply ba)); exact BK531.out) hb)
             replace HB := Am (below_step (by repeat (first | (with_reducible first | exact HB.out | apply bl | apply pN | apply b1 | refine bs ?_ GE516.out | refine bs ?_ GE524.out | refine bs ?_ GE531.out) | exact HB.out | exact HBo.out)) hb)
             (try clear hb)
             (try clear hb2)
             (try clear hk)
             (try clear hi)
             refine hK.out _ _ ⟨(bc BK516.out 0).trans rfl, (bc BK516.out 1).trans rfl, (bc BK516.out 2).trans rfl, (bc BK516.out 3).trans rfl, (bc BK524.out 0).trans rfl, (bc BK524.out 1).trans rfl, (bc BK524.out 2).trans rfl, (bc BK524.out 3).trans rfl, (bc BK531.out 0).trans rfl, (bc BK531.out 1).trans rfl, (bc BK531.out 2).trans rfl, (bc BK531.out 3).trans rfl⟩ (fun hHeld => ?_)
             clear hK K
             refine norm_ (a' := ?_) ?_ ?_
             rotate_left
             ·
              show Act.put _ (some 69) _ = _
              simp only [Act.put, sI, sZ, sS, i64_w, i32_w]
              rfl
             refine one_ (i := 12) (N := some 71) q16_13 rfl rfl (one_of HT_.out (by kernel_rfl)) (by decide) (fun K hK => ?_)
             refine goes_ Try.func16 (by kernel_rfl) rfl #[.agg #[.int .i64 a0_0, .int .i64 a0_1, .int .i64 a0_2, .string a0_3]] (by rfl) rfl rfl (by (try simp only [List.map_toArray, List.map_cons, List.map_nil]); first | done | rfl | (simp only [List.length_drop, List.length_take]; rfl)) ?_
             with_reducible refine (shuttlecockref05_Encode.calls kj3 a0_0 a0_1 a0_2 a0_3 t552 _ A22.out).mono ?_
             rintro e w50 ⟨rfl, hb⟩
             refine ⟨_, rfl, ?_⟩
             replace HO534 := Am (Kd.S_below (by (with_reducible repeat (first | apply Kd.S_alloc | apply Kd.S_drewN | apply Kd.S_drew)); exact HO534.out) hb)
             replace HO537 := Am (Kd.R_below (by (with_reducible repeat (first | apply Kd.R_alloc | apply Kd.R_drewN | apply Kd.R_drew)); exact HO537.out) hb)
             replace HO542 := Am (Kd.S_below (by (with_reducible repeat (first | apply Kd.S_alloc | apply Kd.S_drewN | apply Kd.S_drew)); exact HO542.out) hb)
             replace HO545 := Am (Kd.R_below (by (with_reducible repeat (first | apply Kd.R_alloc | apply Kd.R_drewN | apply Kd.R_drew)); exact HO545.out) hb)
             replace BK516 := Am (blk_below (g := gb516) (o := .cells #[.int .i64 a0_0, .int .i64 a0_1, .int .i64 a0_2, .string a0_3] 23 (0, 0)) (by (with_reducible repeat (first|apply bn|apply bd|apply ba)); exact BK516.out) hb)
             replace BK524 := Am (blk_below (g := gb524) (o := .cells #[.int .i64 t518, .int .i64 t519, .int .i64 t520, .string t521] 23 (0, 0)) (by (with_reducible repeat (first|apply bn|apply bd|apply ba)); exact BK524.out) hb)
             replace BK531 := Am (blk_below (g := gb531) (o := .cells #[.int .i64 t525, .int .i64 t526, .int .i64 t527, .string t528] 23 (0, 0)) (by (with_reducible repeat (first|apply bn|apply bd|apply ba)); exact BK531.out) hb)
             replace HB := Am (below_step (by repeat (first | (with_reducible first | exact HB.out | apply bl | apply pN | apply b1 | refine bs ?_ GE516.out | refine bs ?_ GE524.out | refine bs ?_ GE531.out) | exact HB.out | exact HBo.out)) hb)
             (try clear hb)
             (try clear hb2)
             (try clear hk)
             (try clear hi)
             obtain ⟨Ao51, co51, eo51⟩ := Kd.S_slice HO534.out
             (first | subst eo51 | (injection eo51 with f1_ f2_ f3_; have f4_ := f1_.symm; have f5_ := f3_.symm; clear f1_ f2_ f3_; subst f4_; subst f5_))
             obtain ⟨Ao52, co52, eo52⟩ := Kd.S_slice HO542.out
             (first | subst eo52 | (injection eo52 with f1_ f2_ f3_; have f4_ := f1_.symm; have f5_ := f3_.symm; clear f1_ f2_ f3_; subst f4_; subst f5_))
             refine hK.out _ _ ⟨(bc BK516.out 0).trans rfl, (bc BK516.out 1).trans rfl, (bc BK516.out 2).trans rfl, (bc BK516.out 3).trans rfl, (bc BK524.out 0).trans rfl, (bc BK524.out 1).trans rfl, (bc BK524.out 2).trans rfl, (bc BK524.out 3).trans rfl, (bc BK531.out 0).trans rfl, (bc BK531.out 1).trans rfl, (bc BK531.out 2).trans rfl, (bc BK531.out 3).trans rfl⟩ (fun hHeld => ?_)
             clear hK K
             refine norm_ (a' := ?_) ?_ ?_
             rotate_left
             ·
              show Act.put _ (some 71) _ = _
              simp only [Act.put, sI, sZ, sS, i64_w, i32_w]
              rfl
             refine Own.pr_ 13 (some 72) q16_14 HT_ (h := ?_)
             refine Own.pr_ 14 (some 73) q16_15 HT_ (h := ?_)
             refine Own.pr_ 15 (some 74) q16_16 HT_ (h := ?_)
             refine Own.tk_ 16 (some 75) q16_17 HT_ HW_ hHeld (hy := by rintro w' ⟨s0, s1, s2, s3, s4, s5, s6, s7, s8, s9, s10, s11⟩; go_simp; with_reducible rfl) (h := ?_)
             refine Own.tk_ 17 (some 76) q16_18 HT_ HW_ hHeld (hy := by rintro w' ⟨s0, s1, s2, s3, s4, s5, s6, s7, s8, s9, s10, s11⟩; go_simp; with_reducible rfl) (h := ?_)
             refine Own.pr_ 18 (some 77) q16_19 HT_ (h := ?_)
             refine Own.pr_ 19 (some 78) q16_20 HT_ (h := ?_)
             refine Own.pr_ 20 (some 79) q16_21 HT_ (h := ?_)
             refine Own.pr_ 21 (some 80) q16_22 HT_ (h := ?_)
             refine Own.pr_ 22 (some 81) q16_23 HT_ (h := ?_)
             refine Own.pr_ 23 (some 82) q16_24 HT_ (h := ?_)
             refine Own.pr_ 24 (some 83) q16_25 HT_ (h := ?_)
             refine Own.pr_ 25 (some 84) q16_26 HT_ (h := ?_)
             refine Own.pr_ 26 (some 85) q16_27 HT_ (h := ?_)
             refine Own.pr_ 27 (some 86) q16_28 HT_ (h := ?_)
             refine Own.pr_ 28 (some 87) q16_29 HT_ (h := ?_)
             refine Own.pr_ 29 (some 88) q16_30 HT_ (h := ?_)
             refine Own.pr_ 30 (some 89) q16_31 HT_ (h := ?_)
             refine Own.pr_ 31 (some 90) q16_32 HT_ (h := ?_)
             refine Own.pr_ 32 (some 91) q16_33 HT_ (h := ?_)
             refine one_ (i := 33) (N := some 92) q16_34 rfl rfl (one_of HT_.out (by kernel_rfl)) (by decide) (fun K hK => ?_)
             refine goes_ Try.func17 (by kernel_rfl) rfl #[.slice Ao51 t532.length co51, .slice Ao52 t540.length co52] (by rfl) rfl rfl (by (try simp only [List.map_toArray, List.map_cons, List.map_nil]); first | done | rfl | (simp only [List.length_drop, List.length_take]; rfl)) ?_
             with_reducible refine (shuttlecockref04_All.calls kj3 _ _ t532 _ _ t540 true _ ?side1 ?side2 ?side3 ?side4 A27.out).mono ?_
             (case side1 => repeat (first | exact (Kd.S_reads' HO534.out).2.2 | (with_reducible refine Kd.C_alloc ?_ _) | (with_reducible refine Kd.C_drewN ?_ _) | (with_reducible refine Kd.C_drew ?_)))
             (case side2 => exact (Kd.S_reads' HO534.out).2.1)
             (case side3 => repeat (first | exact (Kd.S_reads' HO542.out).2.2 | (with_reducible refine Kd.C_alloc ?_ _) | (with_reducible refine Kd.C_drewN ?_ _) | (with_reducible refine Kd.C_drew ?_)))
             (case side4 => exact (Kd.S_reads' HO542.out).2.1)
             rintro e w53 ⟨rfl, hb⟩
             refine ⟨_, rfl, ?_⟩
             replace HO534 := Am (Kd.S_below (by (with_reducible repeat (first | apply Kd.S_alloc | apply Kd.S_drewN | apply Kd.S_drew)); exact HO534.out) hb)
             replace HO537 := Am (Kd.R_below (by (with_reducible repeat (first | apply Kd.R_alloc | apply Kd.R_drewN | apply Kd.R_drew)); exact HO537.out) hb)
             replace HO542 := Am (Kd.S_below (by (with_reducible repeat (first | apply Kd.S_alloc | apply Kd.S_drewN | apply Kd.S_drew)); exact HO542.out) hb)
             replace HO545 := Am (Kd.R_below (by (with_reducible repeat (first | apply Kd.R_alloc | apply Kd.R_drewN | apply Kd.R_drew)); exact HO545.out) hb)
             replace BK516 := Am (blk_below (g := gb516) (o := .cells #[.int .i64 a0_0, .int .i64 a0_1, .int .i64 a0_2, .string a0_3] 23 (0, 0)) (by (with_reducible repeat (first|apply bn|apply bd|apply ba)); exact BK516.out) hb)
             replace BK524 := Am (blk_below (g := gb524) (o := .cells #[.int .i64 t518, .int .i64 t519, .int .i64 t520, .string t521] 23 (0, 0)) (by (with_reducible repeat (first|apply bn|apply bd|apply ba)); exact BK524.out) hb)
             replace BK531 := Am (blk_below (g := gb531) (o := .cells #[.int .i64 t525, .int .i64 t526, .int .i64 t527, .string t528] 23 (0, 0)) (by (with_reducible repeat (first|apply bn|apply bd|apply ba)); exact BK531.out) hb)
             replace HB := Am (below_step (by repeat (first | (with_reducible first | exact HB.out | apply bl | apply pN | apply b1 | refine bs ?_ GE516.out | refine bs ?_ GE524.out | refine bs ?_ GE531.out) | exact HB.out | exact HBo.out)) hb)
             (try clear hb)
             (try clear hb2)
             (try clear hk)
             (try clear hi)
             obtain ⟨Ao54, co54, eo54⟩ := Kd.R_slice HO537.out
             (first | subst eo54 | (injection eo54 with f1_ f2_ f3_; have f4_ := f1_.symm; have f5_ := f3_.symm; clear f1_ f2_ f3_; subst f4_; subst f5_))
             obtain ⟨Ao55, co55, eo55⟩ := Kd.R_slice HO545.out
             (first | subst eo55 | (injection eo55 with f1_ f2_ f3_; have f4_ := f1_.symm; have f5_ := f3_.symm; clear f1_ f2_ f3_; subst f4_; subst f5_))
             refine hK.out _ _ ⟨(bc BK516.out 0).trans rfl, (bc BK516.out 1).trans rfl, (bc BK516.out 2).trans rfl, (bc BK516.out 3).trans rfl, (bc BK524.out 0).trans rfl, (bc BK524.out 1).trans rfl, (bc BK524.out 2).trans rfl, (bc BK524.out 3).trans rfl, (bc BK531.out 0).trans rfl, (bc BK531.out 1).trans rfl, (bc BK531.out 2).trans rfl, (bc BK531.out 3).trans rfl⟩ (fun hHeld => ?_)
             clear hK K
             refine norm_ (a' := ?_) ?_ ?_
             rotate_left
             ·
              show Act.put _ (some 92) _ = _
              simp only [Act.put, sI, sZ, sS, i64_w, i32_w]
              rfl
             refine Own.pr_ 34 (some 93) q16_35 HT_ (h := ?_)
             refine Own.pr_ 35 (some 94) q16_36 HT_ (h := ?_)
             refine Own.pr_ 36 (some 95) q16_37 HT_ (h := ?_)
             refine Own.pr_ 37 (some 96) q16_38 HT_ (h := ?_)
             refine one_ (i := 38) (N := some 97) q16_39 rfl rfl (one_of HT_.out (by kernel_rfl)) (by decide) (fun K hK => ?_)
             refine goes_ Try.func18 (by kernel_rfl) rfl #[.slice Ao54 t535.length co54, .slice Ao55 t543.length co55] (by rfl) rfl rfl (by (try simp only [List.map_toArray, List.map_cons, List.map_nil]); first | done | rfl | (simp only [List.length_drop, List.length_take]; rfl)) ?_
             with_reducible refine (shuttlecockref01_Ints.calls kj3 _ _ t535 _ _ t543 true _ ?side1 ?side2 ?side3 ?side4 A29.out).mono ?_
             (case side1 => repeat (first | exact (Kd.R_reads' HO537.out).2.2 | (with_reducible refine Kd.C_alloc ?_ _) | (with_reducible refine Kd.C_drewN ?_ _) | (with_reducible refine Kd.C_drew ?_)))
             (case side2 => exact (Kd.R_reads' HO537.out).2.1)
             (case side3 => repeat (first | exact (Kd.R_reads' HO545.out).2.2 | (with_reducible refine Kd.C_alloc ?_ _) | (with_reducible refine Kd.C_drewN ?_ _) | (with_reducible refine Kd.C_drew ?_)))
             (case side4 => exact (Kd.R_reads' HO545.out).2.1)
             rintro e w' ⟨rfl, ⟨nd, rfl⟩⟩
             refine ⟨_, rfl, ?_⟩
             refine hK.out _ _ ⟨(bc BK516.out 0).trans rfl, (bc BK516.out 1).trans rfl, (bc BK516.out 2).trans rfl, (bc BK516.out 3).trans rfl, (bc BK524.out 0).trans rfl, (bc BK524.out 1).trans rfl, (bc BK524.out 2).trans rfl, (bc BK524.out 3).trans rfl, (bc BK531.out 0).trans rfl, (bc BK531.out 1).trans rfl, (bc BK531.out 2).trans rfl, (bc BK531.out 3).trans rfl⟩ (fun hHeld => ?_)
             clear hK K
             refine norm_ (a' := ?_) ?_ ?_
             rotate_left
             ·
              show Act.put _ (some 97) _ = _
              simp only [Act.put, sI, sZ, sS, i64_w, i32_w]
              rfl
             refine Own.pr_ 39 (some 98) q16_40 HT_ (h := ?_)
             refine Own.pr_ 40 (some 99) q16_41 HT_ (h := ?_)
             refine Own.pr_ 41 (some 100) q16_42 HT_ (h := ?_)
             refine Own.pr_ 42 (some 101) q16_43 HT_ (h := ?_)
             refine Own.pr_ 43 (some 102) q16_44 HT_ (h := ?_)
             refine Own.pr_ 44 (some 103) q16_45 HT_ (h := ?_)
             refine Own.pr_ 45 (some 104) q16_46 HT_ (h := ?_)
             refine Own.pr_ 46 (some 105) q16_47 HT_ (h := ?_)
             refine Own.pr_ 47 (some 106) q16_48 HT_ (h := ?_)
             refine Own.pr_ 48 (some 107) q16_49 HT_ (h := ?_)
             refine Own.pr_ 49 (some 108) q16_50 HT_ (h := ?_)
             refine Own.pr_ 50 (some 6) q16_51 HT_ (h := ?_)
             refine done_ (done_of HT_.out (by kernel_rfl)) ?_
             try go_wp2
             go_ret
             exact ⟨by first | rfl | (simp <;> rfl) | (simp [*] <;> rfl) | (simp [Aid.ne_nil, Aid.eq_nil]; done), by repeat (first | (with_reducible first | exact HB.out | apply bl | apply pN | apply b1 | refine bs ?_ GE516.out | refine bs ?_ GE524.out | refine bs ?_ GE531.out) | exact HB.out | exact HBo.out)⟩
            ·
             rw [if_neg c31] at H
             have c31b0 : (t538 == t546) = false := beq_eq_false_iff_ne.mpr c31
             have c31b1 : (t538 != t546) = true := bne_iff_ne.mpr c31
             exact absurd H (by simp)
           ·
            replace c30 := Bool.eq_false_iff.mpr c30
            subst c30
            rw [if_neg (show ¬ (false = true) by decide)] at H
            exact absurd H (by simp)
          ·
           replace c28 := Bool.eq_false_iff.mpr c28
           subst c28
           rw [if_neg (show ¬ (false = true) by decide)] at H
           exact absurd H (by simp)
         ·
          rw [if_neg c26] at H
          have c26b0 : (t523 == t530) = false := beq_eq_false_iff_ne.mpr c26
          have c26b1 : (t523 != t530) = true := bne_iff_ne.mpr c26
          exact absurd H (by simp)
        ·
         rw [if_neg c25] at H
         have c25b0 : (t522 == t529) = false := beq_eq_false_iff_ne.mpr c25
         have c25b1 : (t522 != t529) = true := bne_iff_ne.mpr c25
         exact absurd H (by simp)
       ·
        rw [if_neg c24] at H
        have c24b0 : (t518 == t525 && (t519 == t526 && (t520 == t527 && (t521.toList == t528.toList)))) = false := by simpa using c24
        try have c24b7 : (t518 = t525 ∧ t519 = t526 ∧ t520 = t527 ∧ t521.toList = t528.toList) = False := eq_false (by first | (intro hh_; simp [hh_] at c24; done) | simpa using c24)
        (try (have c24b1 : decide (t518 = t525 && (t519 == t526 && (t520 == t527 && (t521.toList == t528.toList)))) = false := by simpa using c24))
        (try (have c24b2 : (t518 == t525 && (t519 == t526 && (t520 == t527 && (t521.toList == t528.toList)))) = false := by simpa using c24))
        (try (have c24b3 : ¬ (t518 = t525 && (t519 == t526 && (t520 == t527 && (t521.toList == t528.toList)))) := by simpa using c24))
        clear c24
        exact absurd H (by simp)
      ·
       rw [if_neg c23] at H
       have c23b0 : (t551.toList == t552.toList) = false := beq_eq_false_iff_ne.mpr c23
       have c23b1 : (t551.toList != t552.toList) = true := bne_iff_ne.mpr c23
       exact absurd H (by simp)
     ·
      rw [if_neg c20] at H
      have c20b0 : (t549 == t550) = false := by simpa using c20
      (try (have c20b1 : decide (t549 = t550) = false := by simpa using c20))
      (try (have c20b2 : (t549 == t550) = false := by simpa using c20))
      (try (have c20b3 : ¬ (t549 = t550) := by simpa using c20))
      clear c20
      exact absurd H (by simp)
    ·
     replace c17 := Bool.eq_false_iff.mpr c17
     subst c17
     rw [if_neg (show ¬ (false = true) by decide)] at H
     exact absurd H (by simp)

/-- THE ONE PURE STATEMENT of shuttlecocklaw05_BatchTells (own row). -/
def shuttlecocklaw05_BatchTells.Pure : Prop := ∀ (y0 : S23) (y1 : ByteArray) (y2 : Int), ((Lit.int .i64 y0.f0).wf = true ∧ (Lit.int .i64 y0.f1).wf = true ∧ (Lit.int .i64 y0.f2).wf = true ∧ y0.f3.size ≤ 140737488351232) → y1.size ≤ 140737488351232 → (Lit.int .i64 y2).wf = true → ∃ k, shuttlecocklaw05_BatchTells.f k y0.f0 y0.f1 y0.f2 y0.f3 y1 y2 = some true

end Go.Proofs.Ytfcombimnmkoeaa.Q
