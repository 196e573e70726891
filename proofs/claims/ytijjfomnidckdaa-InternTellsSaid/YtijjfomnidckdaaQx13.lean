-- printed by a program of this session (NOTES: hprint); not the kit's print
-- minified
-- halved
import Derived.Test.YtijjfomnidckdaaAl
import Derived.Test.YtijjfomnidckdaaQx0
import Derived.Test.YtijjfomnidckdaaQx3
import Derived.Test.YtijjfomnidckdaaQx4
import Derived.Test.YtijjfomnidckdaaQx5
import Derived.Test.YtijjfomnidckdaaQx6
import Derived.Test.YtijjfomnidckdaaQx7
import Derived.Test.YtijjfomnidckdaaQx8
import Derived.Test.YtijjfomnidckdaaQx9
import Derived.Test.YtijjfomnidckdaaQx10
import Derived.Test.YtijjfomnidckdaaQx11
import Derived.Test.YtijjfomnidckdaaQx12
namespace Go.Proofs.Ytijjfomnidckdaa.Q
open Go.RowKit Go.Proofs.YtijjfomnidckdaaW.PrintWords Go.Proofs.YtijjfomnidckdaaW.PrintLast Go.Proofs.YtijjfomnidckdaaW.PrintMore
attribute [local go_sem] max2_int min2_int max_two min_two max_three min_three max_four min_four   -- for this text's walks alone
set_option linter.unusedVariables false
set_option linter.unusedSimpArgs false

def q13_0 : Array Bool := let o := true; let z := false; #[z,z,z,z,z,z,z,z,z,z,z,z,z,z,z,z,z,z,z,z,z,z,z,z,z,z,z,z,z,z,z,z,z,z,z,z,z,z,z,z,z,z,z,z,z,z,z,z,z]
def q13_1 : Array Bool := let o := true; let z := false; #[o,z,z,z,z,z,z,z,z,z,z,z,z,z,z,z,z,z,z,z,z,z,z,z,z,z,z,z,z,z,z,z,z,z,z,z,z,z,z,z,z,z,z,z,z,z,z,z,z]
def q13_2 : Array Bool := let o := true; let z := false; #[o,o,z,z,z,z,z,z,z,z,z,z,z,z,z,z,z,z,z,z,z,z,z,z,z,z,z,z,z,z,z,z,z,z,z,z,z,z,z,z,z,z,z,z,z,z,z,z,z]
def q13_3 : Array Bool := let o := true; let z := false; #[o,o,o,z,z,z,z,z,z,z,z,z,z,z,z,z,z,z,z,z,z,z,z,z,z,z,z,z,z,z,z,z,z,z,z,z,z,z,z,z,z,z,z,z,z,z,z,z,z]
def q13_4 : Array Bool := let o := true; let z := false; #[o,o,o,z,o,z,z,z,z,z,z,z,z,z,z,z,z,z,z,z,z,z,z,z,z,z,z,z,z,z,z,z,z,z,z,z,z,z,z,z,z,z,z,z,z,z,z,z,z]
def q13_5 : Array Bool := let o := true; let z := false; #[o,o,o,o,o,z,z,z,z,z,z,z,z,z,z,z,z,z,z,z,z,z,z,z,z,z,z,z,z,z,z,z,z,z,z,z,z,z,z,z,z,z,z,z,z,z,z,z,z]
def q13_6 : Array Bool := let o := true; let z := false; #[o,o,o,o,o,o,z,z,z,z,z,z,z,z,z,z,z,z,z,z,z,z,z,z,z,z,z,z,z,z,z,z,z,z,z,z,z,z,z,z,z,z,z,z,z,z,z,z,z]
def q13_7 : Array Bool := let o := true; let z := false; #[o,o,o,o,o,o,o,z,z,z,z,z,z,z,z,z,z,z,z,z,z,z,z,z,z,z,z,z,z,z,z,z,z,z,z,z,z,z,z,z,z,z,z,z,z,z,z,z,z]
def q13_8 : Array Bool := let o := true; let z := false; #[o,o,o,o,o,o,o,o,z,z,z,z,z,z,z,z,z,z,z,z,z,z,z,z,z,z,z,z,z,z,z,z,z,z,z,z,z,z,z,z,z,z,z,z,z,z,z,z,z]
def q13_9 : Array Bool := let o := true; let z := false; #[o,o,o,o,o,o,o,o,o,z,z,z,z,z,z,z,z,z,z,z,z,z,z,z,z,z,z,z,z,z,z,z,z,z,z,z,z,z,z,z,z,z,z,z,z,z,z,z,z]
def q13_10 : Array Bool := let o := true; let z := false; #[o,o,o,o,o,o,o,o,o,o,z,z,z,z,z,z,z,z,z,z,z,z,z,z,z,z,z,z,z,z,z,z,z,z,z,z,z,z,z,z,z,z,z,z,z,z,z,z,z]
def q13_11 : Array Bool := let o := true; let z := false; #[o,o,o,o,o,o,o,o,o,o,o,z,z,z,z,z,z,z,z,z,z,z,z,z,z,z,z,z,z,z,z,z,z,z,z,z,z,z,z,z,z,z,z,z,z,z,z,z,z]
def q13_12 : Array Bool := let o := true; let z := false; #[o,o,o,o,o,o,o,o,o,o,o,o,z,z,z,z,z,z,z,z,z,z,z,z,z,z,z,z,z,z,z,z,z,z,z,z,z,z,z,z,z,z,z,z,z,z,z,z,z]
def q13_13 : Array Bool := let o := true; let z := false; #[o,o,o,o,o,o,o,o,o,o,o,o,o,z,z,z,z,z,z,z,z,z,z,z,z,z,z,z,z,z,z,z,z,z,z,z,z,z,z,z,z,z,z,z,z,z,z,z,z]
def q13_14 : Array Bool := let o := true; let z := false; #[o,o,o,o,o,o,o,o,o,o,o,o,o,o,z,z,z,z,z,z,z,z,z,z,z,z,z,z,z,z,z,z,z,z,z,z,z,z,z,z,z,z,z,z,z,z,z,z,z]
def q13_15 : Array Bool := let o := true; let z := false; #[o,o,o,o,o,o,o,o,o,o,o,o,o,o,o,z,z,z,z,z,z,z,z,z,z,z,z,z,z,z,z,z,z,z,z,z,z,z,z,z,z,z,z,z,z,z,z,z,z]
def q13_16 : Array Bool := let o := true; let z := false; #[o,o,o,o,o,o,o,o,o,o,o,o,o,o,o,o,z,z,z,z,z,z,z,z,z,z,z,z,z,z,z,z,z,z,z,z,z,z,z,z,z,z,z,z,z,z,z,z,z]
def q13_17 : Array Bool := let o := true; let z := false; #[o,o,o,o,o,o,o,o,o,o,o,o,o,o,o,o,o,z,z,z,z,z,z,z,z,z,z,z,z,z,z,z,z,z,z,z,z,z,z,z,z,z,z,z,z,z,z,z,z]
def q13_18 : Array Bool := let o := true; let z := false; #[o,o,o,o,o,o,o,o,o,o,o,o,o,o,o,o,o,o,z,z,z,z,z,z,z,z,z,z,z,z,z,z,z,z,z,z,z,z,z,z,z,z,z,z,z,z,z,z,z]
def q13_19 : Array Bool := let o := true; let z := false; #[o,o,o,o,o,o,o,o,o,o,o,o,o,o,o,o,o,o,o,z,z,z,z,z,z,z,z,z,z,z,z,z,z,z,z,z,z,z,z,z,z,z,z,z,z,z,z,z,z]
def q13_20 : Array Bool := let o := true; let z := false; #[o,o,o,o,o,o,o,o,o,o,o,o,o,o,o,o,o,o,o,o,z,z,z,z,z,z,z,z,z,z,z,z,z,z,z,z,z,z,z,z,z,z,z,z,z,z,z,z,z]
def q13_21 : Array Bool := let o := true; let z := false; #[o,o,o,o,o,o,o,o,o,o,o,o,o,o,o,o,o,o,o,o,o,z,z,z,z,z,z,z,z,z,z,z,z,z,z,z,z,z,z,z,z,z,z,z,z,z,z,z,z]
def q13_22 : Array Bool := let o := true; let z := false; #[o,o,o,o,o,o,o,o,o,o,o,o,o,o,o,o,o,o,o,o,o,o,z,z,z,z,z,z,z,z,z,z,z,z,z,z,z,z,z,z,z,z,z,z,z,z,z,z,z]
def q13_23 : Array Bool := let o := true; let z := false; #[o,o,o,o,o,o,o,o,o,o,o,o,o,o,o,o,o,o,o,o,o,o,o,z,z,z,z,z,z,z,z,z,z,z,z,z,z,z,z,z,z,z,z,z,z,z,z,z,z]
def q13_24 : Array Bool := let o := true; let z := false; #[o,o,o,o,o,o,o,o,o,o,o,o,o,o,o,o,o,o,o,o,o,o,o,o,z,z,z,z,z,z,z,z,z,z,z,z,z,z,z,z,z,z,z,z,z,z,z,z,z]
def q13_25 : Array Bool := let o := true; let z := false; #[o,o,o,o,o,o,o,o,o,o,o,o,o,o,o,o,o,o,o,o,o,o,o,o,o,z,z,z,z,z,z,z,z,z,z,z,z,z,z,z,z,z,z,z,z,z,z,z,z]
def q13_26 : Array Bool := let o := true; let z := false; #[o,o,o,o,o,o,o,o,o,o,o,o,o,o,o,o,o,o,o,o,o,o,o,o,o,o,z,z,z,z,z,z,z,z,z,z,z,z,z,z,z,z,z,z,z,z,z,z,z]
def q13_27 : Array Bool := let o := true; let z := false; #[o,o,o,o,o,o,o,o,o,o,o,o,o,o,o,o,o,o,o,o,o,o,o,o,o,o,o,z,z,z,z,z,z,z,z,z,z,z,z,z,z,z,z,z,z,z,z,z,z]
def q13_28 : Array Bool := let o := true; let z := false; #[o,o,o,o,o,o,o,o,o,o,o,o,o,o,o,o,o,o,o,o,o,o,o,o,o,o,o,o,z,z,z,z,z,z,z,z,z,z,z,z,z,z,z,z,z,z,z,z,z]
def q13_29 : Array Bool := let o := true; let z := false; #[o,o,o,o,o,o,o,o,o,o,o,o,o,o,o,o,o,o,o,o,o,o,o,o,o,o,o,o,o,z,z,z,z,z,z,z,z,z,z,z,z,z,z,z,z,z,z,z,z]
def q13_30 : Array Bool := let o := true; let z := false; #[o,o,o,o,o,o,o,o,o,o,o,o,o,o,o,o,o,o,o,o,o,o,o,o,o,o,o,o,o,o,z,z,z,z,z,z,z,z,z,z,z,z,z,z,z,z,z,z,z]
def q13_31 : Array Bool := let o := true; let z := false; #[o,o,o,o,o,o,o,o,o,o,o,o,o,o,o,o,o,o,o,o,o,o,o,o,o,o,o,o,o,o,o,z,z,z,z,z,z,z,z,z,z,z,z,z,z,z,z,z,z]
def q13_32 : Array Bool := let o := true; let z := false; #[o,o,o,o,o,o,o,o,o,o,o,o,o,o,o,o,o,o,o,o,o,o,o,o,o,o,o,o,o,o,o,o,z,z,z,z,z,z,z,z,z,z,z,z,z,z,z,z,z]
def q13_33 : Array Bool := let o := true; let z := false; #[o,o,o,o,o,o,o,o,o,o,o,o,o,o,o,o,o,o,o,o,o,o,o,o,o,o,o,o,o,o,o,o,o,z,z,z,z,z,z,z,z,z,z,z,z,z,z,z,z]
def q13_34 : Array Bool := let o := true; let z := false; #[o,o,o,o,o,o,o,o,o,o,o,o,o,o,o,o,o,o,o,o,o,o,o,o,o,o,o,o,o,o,o,o,o,o,z,z,z,z,z,z,z,z,z,z,z,z,z,z,z]
def q13_35 : Array Bool := let o := true; let z := false; #[o,o,o,o,o,o,o,o,o,o,o,o,o,o,o,o,o,o,o,o,o,o,o,o,o,o,o,o,o,o,o,o,o,o,o,z,z,z,z,z,z,z,z,z,z,z,z,z,z]
def q13_36 : Array Bool := let o := true; let z := false; #[o,o,o,o,o,o,o,o,o,o,o,o,o,o,o,o,o,o,o,o,o,o,o,o,o,o,o,o,o,o,o,o,o,o,o,o,z,z,z,z,z,z,z,z,z,z,z,z,z]
def q13_37 : Array Bool := let o := true; let z := false; #[o,o,o,o,o,o,o,o,o,o,o,o,o,o,o,o,o,o,o,o,o,o,o,o,o,o,o,o,o,o,o,o,o,o,o,o,o,z,z,z,z,z,z,z,z,z,z,z,z]
def q13_38 : Array Bool := let o := true; let z := false; #[o,o,o,o,o,o,o,o,o,o,o,o,o,o,o,o,o,o,o,o,o,o,o,o,o,o,o,o,o,o,o,o,o,o,o,o,o,o,z,z,z,z,z,z,z,z,z,z,z]
def q13_39 : Array Bool := let o := true; let z := false; #[o,o,o,o,o,o,o,o,o,o,o,o,o,o,o,o,o,o,o,o,o,o,o,o,o,o,o,o,o,o,o,o,o,o,o,o,o,o,o,z,z,z,z,z,z,z,z,z,z]
def q13_40 : Array Bool := let o := true; let z := false; #[o,o,o,o,o,o,o,o,o,o,o,o,o,o,o,o,o,o,o,o,o,o,o,o,o,o,o,o,o,o,o,o,o,o,o,o,o,o,o,o,z,z,z,z,z,z,z,z,z]
def q13_41 : Array Bool := let o := true; let z := false; #[o,o,o,o,o,o,o,o,o,o,o,o,o,o,o,o,o,o,o,o,o,o,o,o,o,o,o,o,o,o,o,o,o,o,o,o,o,o,o,o,o,z,z,z,z,z,z,z,z]
def q13_42 : Array Bool := let o := true; let z := false; #[o,o,o,o,o,o,o,o,o,o,o,o,o,o,o,o,o,o,o,o,o,o,o,o,o,o,o,o,o,o,o,o,o,o,o,o,o,o,o,o,o,o,z,z,z,z,z,z,z]
def q13_43 : Array Bool := let o := true; let z := false; #[o,o,o,o,o,o,o,o,o,o,o,o,o,o,o,o,o,o,o,o,o,o,o,o,o,o,o,o,o,o,o,o,o,o,o,o,o,o,o,o,o,o,o,z,z,z,z,z,z]
def q13_44 : Array Bool := let o := true; let z := false; #[o,o,o,o,o,o,o,o,o,o,o,o,o,o,o,o,o,o,o,o,o,o,o,o,o,o,o,o,o,o,o,o,o,o,o,o,o,o,o,o,o,o,o,o,z,z,z,z,z]
def q13_45 : Array Bool := let o := true; let z := false; #[o,o,o,o,o,o,o,o,o,o,o,o,o,o,o,o,o,o,o,o,o,o,o,o,o,o,o,o,o,o,o,o,o,o,o,o,o,o,o,o,o,o,o,o,o,z,z,z,z]
def q13_46 : Array Bool := let o := true; let z := false; #[o,o,o,o,o,o,o,o,o,o,o,o,o,o,o,o,o,o,o,o,o,o,o,o,o,o,o,o,o,o,o,o,o,o,o,o,o,o,o,o,o,o,o,o,o,o,z,z,z]
def q13_47 : Array Bool := let o := true; let z := false; #[o,o,o,o,o,o,o,o,o,o,o,o,o,o,o,o,o,o,o,o,o,o,o,o,o,o,o,o,o,o,o,o,o,o,o,o,o,o,o,o,o,o,o,o,o,o,o,z,z]
def q13_48 : Array Bool := let o := true; let z := false; #[o,o,o,o,o,o,o,o,o,o,o,o,o,o,o,o,o,o,o,o,o,o,o,o,o,o,o,o,o,o,o,o,o,o,o,o,o,o,o,o,o,o,o,o,o,o,o,o,z]
def q13_49 : Array Bool := let o := true; let z := false; #[o,o,o,o,o,o,o,o,o,o,o,o,o,o,o,o,o,o,o,o,o,o,o,o,o,o,o,o,o,o,o,o,o,o,o,o,o,o,o,o,o,o,o,o,o,o,o,o,o]
/-! ### shuttlecocklaw06_InternTells: function 3 -/
def shuttlecocklaw06_InternTells.j0 : Nat → Bool → List ByteArray → List (List (S50)) → ByteArray → List (S45) → Int → Option (Bool)
 | 0, _, _, _, _, _, _ => none
 | k + 1, x35, x286000, x286001, x287000, x287001, x287002 => if x35 = true then ((shuttlecocklaw06_fixed.f k).bind fun t289 => (some t289)) else ((intern_String.f k x286000 x286001 x287000).bind fun bt290 => ((shuttlecockref06_String.f k x286000 x286001 x287000).bind fun bt298 => ((intern_Stack.f k x286000 x286001 x287001).bind fun bt306 => ((shuttlecockref06_Stack.f k x286000 x286001 x287001).bind fun bt314 => ((intern_Name.f k x286000 x286001 x287002).bind fun bt322 => ((shuttlecockref06_Name.f k x286000 x286001 x287002).bind fun bt324 => ((intern_Frames.f k x286000 x286001 x287002).bind fun bt326 => ((shuttlecockref06_Frames.f k x286000 x286001 x287002).bind fun bt330 => ((shuttlecocklaw06_fixed.f k).bind fun t334 => (if t334 = true then ((intern_May.f k x286000 x286001).bind fun t335 => ((shuttlecockref06_May.f k x286000 x286001).bind fun t336 => (if (t335 == t336) = true then ((shuttlecockref06_Same.f k bt290.1 bt290.2.1 bt298.1 bt298.2.1).bind fun t337 => (if t337 = true then (if bt290.2.2 = bt298.2.2 then ((shuttlecockref06_Same.f k bt306.1 bt306.2.1 bt314.1 bt314.2.1).bind fun t338 => (if t338 = true then (if bt306.2.2 = bt314.2.2 then (if bt322.1.toList = bt324.1.toList then (if (bt322.2 == bt324.2) = true then ((shuttlecockref06_SameFrames.f k bt326.1 bt330.1).bind fun t339 => (if t339 = true then (some (bt326.2 == bt330.2)) else (none))) else (none)) else (none)) else (none)) else (none))) else (none)) else (none))) else (none)))) else (none)))))))))))
def shuttlecocklaw06_InternTells.f (k : Nat) (l0_0 : List ByteArray) (l0_1 : List (List (S50))) (a1_0 : ByteArray) (l1_1 : List (S45)) (a1_2 : Int) : Option (Bool) := (shuttlecockref06_Small.f k l0_0 l0_1).bind fun t287 => (if t287 = true then ((shuttlecockref06_Few.f k l1_1).bind fun t288 => (if t288 = true then (shuttlecocklaw06_InternTells.j0 k (decide ((a1_0.size : Int) > 1100)) l0_0 l0_1 a1_0 l1_1 a1_2) else (shuttlecocklaw06_InternTells.j0 k true l0_0 l0_1 a1_0 l1_1 a1_2))) else (shuttlecocklaw06_InternTells.j0 k true l0_0 l0_1 a1_0 l1_1 a1_2))
theorem shuttlecocklaw06_InternTells.mono_l : ∀ k, (∀ y0 y1 y2 y3 y4 y5, LeO (shuttlecocklaw06_InternTells.j0 k y0 y1 y2 y3 y4 y5) (shuttlecocklaw06_InternTells.j0 (k + 1) y0 y1 y2 y3 y4 y5))
 | 0 => fun _ _ _ _ _ _ r h => by simp [shuttlecocklaw06_InternTells.j0] at h
 | k + 1 => by
  have ih0 := shuttlecocklaw06_InternTells.mono_l k
  ·
   intro y0 y1 y2 y3 y4 y5
   unfold shuttlecocklaw06_InternTells.j0
   repeat' first
   | (with_reducible exact ih0 _ _ _ _ _ _)
   | (with_reducible exact intern_Frames.mono _ _ _ _)
   | (with_reducible exact intern_May.mono _ _ _)
   | (with_reducible exact intern_Name.mono _ _ _ _)
   | (with_reducible exact intern_Stack.mono _ _ _ _)
   | (with_reducible exact intern_String.mono _ _ _ _)
   | (with_reducible exact shuttlecocklaw06_fixed.mono _)
   | (with_reducible exact shuttlecockref06_Few.mono _ _)
   | (with_reducible exact shuttlecockref06_Frames.mono _ _ _ _)
   | (with_reducible exact shuttlecockref06_May.mono _ _ _)
   | (with_reducible exact shuttlecockref06_Name.mono _ _ _ _)
   | (with_reducible exact shuttlecockref06_Same.mono _ _ _ _ _)
   | (with_reducible exact shuttlecockref06_SameFrames.mono _ _ _)
   | (with_reducible exact shuttlecockref06_Small.mono _ _ _)
   | (with_reducible exact shuttlecockref06_Stack.mono _ _ _ _)
   | (with_reducible exact shuttlecockref06_String.mono _ _ _ _)
   | (with_reducible exact LeO.refl _)
   | (with_reducible exact LeO.none _)
   | (with_reducible refine LeO.ite ?_ ?_)
   | (with_reducible refine LeO.bind ?_ (fun _ => ?_))
   | exact ih0 _ _ _ _ _ _
   | exact intern_Frames.mono _ _ _ _
   | exact intern_May.mono _ _ _
   | exact intern_Name.mono _ _ _ _
   | exact intern_Stack.mono _ _ _ _
   | exact intern_String.mono _ _ _ _
   | exact shuttlecocklaw06_fixed.mono _
   | exact shuttlecockref06_Few.mono _ _
   | exact shuttlecockref06_Frames.mono _ _ _ _
   | exact shuttlecockref06_May.mono _ _ _
   | exact shuttlecockref06_Name.mono _ _ _ _
   | exact shuttlecockref06_Same.mono _ _ _ _ _
   | exact shuttlecockref06_SameFrames.mono _ _ _
   | exact shuttlecockref06_Small.mono _ _ _
   | exact shuttlecockref06_Stack.mono _ _ _ _
   | exact shuttlecockref06_String.mono _ _ _ _
   | exact LeO.none _
   | refine LeO.ite ?_ ?_
   | refine LeO.bind ?_ (fun _ => ?_)
theorem shuttlecocklaw06_InternTells.mono : ∀ a0 a1 a2 a3 a4 k, LeO (shuttlecocklaw06_InternTells.f k a0 a1 a2 a3 a4) (shuttlecocklaw06_InternTells.f (k + 1) a0 a1 a2 a3 a4) := by
 intro a0 a1 a2 a3 a4 k
 have ih0 := shuttlecocklaw06_InternTells.mono_l k
 unfold shuttlecocklaw06_InternTells.f
 repeat' first
   | (with_reducible exact ih0 _ _ _ _ _ _)
   | (with_reducible exact intern_Frames.mono _ _ _ _)
   | (with_reducible exact intern_May.mono _ _ _)
   | (with_reducible exact intern_Name.mono _ _ _ _)
   | (with_reducible exact intern_Stack.mono _ _ _ _)
   | (with_reducible exact intern_String.mono _ _ _ _)
   | (with_reducible exact shuttlecocklaw06_fixed.mono _)
   | (with_reducible exact shuttlecockref06_Few.mono _ _)
   | (with_reducible exact shuttlecockref06_Frames.mono _ _ _ _)
   | (with_reducible exact shuttlecockref06_May.mono _ _ _)
   | (with_reducible exact shuttlecockref06_Name.mono _ _ _ _)
   | (with_reducible exact shuttlecockref06_Same.mono _ _ _ _ _)
   | (with_reducible exact shuttlecockref06_SameFrames.mono _ _ _)
   | (with_reducible exact shuttlecockref06_Small.mono _ _ _)
   | (with_reducible exact shuttlecockref06_Stack.mono _ _ _ _)
   | (with_reducible exact shuttlecockref06_String.mono _ _ _ _)
   | (with_reducible exact LeO.refl _)
   | (with_reducible exact LeO.none _)
   | (with_reducible refine LeO.ite ?_ ?_)
   | (with_reducible refine LeO.bind ?_ (fun _ => ?_))
   | exact ih0 _ _ _ _ _ _
   | exact intern_Frames.mono _ _ _ _
   | exact intern_May.mono _ _ _
   | exact intern_Name.mono _ _ _ _
   | exact intern_Stack.mono _ _ _ _
   | exact intern_String.mono _ _ _ _
   | exact shuttlecocklaw06_fixed.mono _
   | exact shuttlecockref06_Few.mono _ _
   | exact shuttlecockref06_Frames.mono _ _ _ _
   | exact shuttlecockref06_May.mono _ _ _
   | exact shuttlecockref06_Name.mono _ _ _ _
   | exact shuttlecockref06_Same.mono _ _ _ _ _
   | exact shuttlecockref06_SameFrames.mono _ _ _
   | exact shuttlecockref06_Small.mono _ _ _
   | exact shuttlecockref06_Stack.mono _ _ _ _
   | exact shuttlecockref06_String.mono _ _ _ _
   | exact LeO.none _
   | refine LeO.ite ?_ ?_
   | refine LeO.bind ?_ (fun _ => ?_)
def shuttlecocklaw06_InternTells.T11 : Bool × List (List Nat × List Nat) := (true, [([], []), ([0, 0], [0]), ([1], [1]), ([2, 1, 1], [1, 2]), ([1], [1]), ([4, 3, 1], [1, 4]), ([3, 5, 1], [1, 3, 5]), ([1, 6], [1, 6]), ([7, 5], [7]), ([8], [8]), ([8], [8]), ([9, 10, 8, 8], [8, 9, 10]), ([8, 11], [8, 11]), ([12, 11], [12]), ([13], [13]), ([13], [13]), ([14, 15, 13], [13, 14, 15]), ([13, 16], [13, 16]), ([17, 13], [17]), ([18], [18]), ([18], [18]), ([19, 20, 18, 18], [18, 19, 20]), ([18, 21], [18, 21]), ([22, 21], [22]), ([23], [23]), ([23], [23]), ([24, 25, 23], [23, 24, 25]), ([23, 26], [23, 26]), ([27, 23], [27]), ([28], [28]), ([28], [28]), ([29, 30, 28], [28, 29, 30]), ([28, 31], [28, 31]), ([32, 28], [32]), ([33], [33]), ([33], [33]), ([34, 35, 33], [33, 34, 35]), ([33, 36], [33, 36]), ([37, 33], [37]), ([38], [38]), ([38], [38]), ([39, 40, 38, 38], [38, 39, 40]), ([38, 41], [38, 41]), ([42, 41], [42]), ([43], [43]), ([43], [43]), ([44, 45, 43], [43, 44, 45]), ([43, 46], [43, 46]), ([47, 43, 0, 1, 2, 3, 4, 5, 6, 7, 8, 9, 10, 11, 12, 13, 14, 15, 16, 17, 18, 19, 20, 21, 22, 23, 24, 25, 26, 27, 28, 29, 30, 31, 32, 33, 34, 35, 36, 37, 38, 39, 40, 41, 42, 43, 44, 45, 46, 47], [47])])
def shuttlecocklaw06_InternTells.B11 : List Nat := [0, 1, 3, 7, 3, 31, 63, 127, 255, 511, 511, 2047, 4095, 8191, 16383, 16383, 65535, 131071, 262143, 524287, 524287, 2097151, 4194303, 8388607, 16777215, 16777215, 67108863, 134217727, 268435455, 536870911, 536870911, 2147483647, 4294967295, 8589934591, 17179869183, 17179869183, 68719476735, 137438953471, 274877906943, 549755813887, 549755813887, 2199023255551, 4398046511103, 8796093022207, 17592186044415, 17592186044415, 70368744177663, 140737488355327, 281474976710655]
theorem shuttlecocklaw06_InternTells.tab11 : rtab .any (opsOf Try.f3 11) = shuttlecocklaw06_InternTells.T11 := by kernel_rfl
theorem shuttlecocklaw06_InternTells.bits11 : waitsOk shuttlecocklaw06_InternTells.T11.2 shuttlecocklaw06_InternTells.B11 = true := by kernel_rfl
set_option maxHeartbeats 8000000 in
set_option maxRecDepth 100000 in
theorem shuttlecocklaw06_InternTells.calls (k : Nat) (A0_0 : Option Addr) (c0_0 : Nat) (l0_0 : List ByteArray) (A0_1 : Option Addr) (c0_1 : Nat) (l0_1 : List (List (S50))) (a1_0 : ByteArray) (A1_1 : Option Addr) (c1_1 : Nat) (l1_1 : List (S45)) (a1_2 : Int) (r : Bool) (w : World) (hr0_0 : Kd.C Kd.string w A0_0 l0_0.length l0_0) (hc0_0 : l0_0.length ≤ c0_0) (hr0_1 : Kd.C (Kd.slice 50 k50) w A0_1 l0_1.length l0_1) (hc0_1 : l0_1.length ≤ c0_1) (hr1_1 : Kd.C k45 w A1_1 l1_1.length l1_1) (hc1_1 : l1_1.length ≤ c1_1) (h : shuttlecocklaw06_InternTells.f k l0_0 l0_1 a1_0 l1_1 a1_2 = some r) :
  Calls Try.prog 3 #[.agg #[.slice A0_0 l0_0.length c0_0, .slice A0_1 l0_1.length c0_1], .agg #[.string a1_0, .slice A1_1 l1_1.length c1_1, .int .i64 a1_2]] w fun e w' => e = .returned (.bool r) ∧ Below w.heap.size w w' := by
 have hu25 := Try.underlying25
 have hu28 := Try.underlying28
 have HR0_0 := Am hr0_0
 have HC0_0 := Am hc0_0
 clear hr0_0 hc0_0
 have HR0_1 := Am hr0_1
 have HC0_1 := Am hc0_1
 clear hr0_1 hc0_1
 have HR1_1 := Am hr1_1
 have HC1_1 := Am hc1_1
 clear hr1_1 hc1_1
 have HB := Am (Below.refl w.heap.size w)
 have H : ((shuttlecockref06_Small.f k l0_0 l0_1).bind fun t287 => (if t287 = true then ((shuttlecockref06_Few.f k l1_1).bind fun t288 => (if t288 = true then (shuttlecocklaw06_InternTells.j0 k (decide ((a1_0.size : Int) > 1100)) l0_0 l0_1 a1_0 l1_1 a1_2) else (shuttlecocklaw06_InternTells.j0 k true l0_0 l0_1 a1_0 l1_1 a1_2))) else (shuttlecocklaw06_InternTells.j0 k true l0_0 l0_1 a1_0 l1_1 a1_2))) = some r := h
 clear h
 have HC3 := Am H
 clear H
 go_enter Try.func3, Try.ntmps3
 go_upto_region 1 with (first | ((with_reducible refine gate_dst (N := 2) rfl ?_); (try (refine gate_guard (by rfl) ?_; dsimp only)); refine box_event ?hg (N := 2) ?hd (cs := #[.slice A0_0 l0_0.length c0_0, .slice A0_1 l0_1.length c0_1]) (t := 25) ?hr ?_; (case hd => rfl); (case hg => rfl); (case hr => first | (go_simp; done) | (go_simp; rfl)); intro gb285 hg w4 hbox hb; have n0_ := Am (below_step (by repeat (first | (with_reducible first | exact HB.out | apply bl | apply pN | apply b1) | exact HB.out | exact HBo.out)) hb); have n1_ := Am (hbox); have n2_ := Am ((by rw [hg]; exact (below_size (by repeat (first | (with_reducible first | exact HB.out | apply bl | apply pN | apply b1) | exact HB.out | exact HBo.out))) : w.heap.size ≤ gb285)); have n3_ := Am ((by rw [hg]; exact (below_size (by repeat (first | (with_reducible first | exact HB.out | apply bl | apply pN | apply b1) | exact HB.out | exact HBo.out))) : w.heap.size ≤ gb285)); clear HB; have HB := n0_; have BK285 := n1_; have GW285 := n2_; have GE285 := n3_; clear n0_ n1_ n2_ n3_; clear hb hbox hg) | ((with_reducible refine gate_dst (N := 3) rfl ?_); (try (refine gate_guard (by rfl) ?_; dsimp only)); refine box_event ?hg (N := 3) ?hd (cs := #[.string a1_0, .slice A1_1 l1_1.length c1_1, .int .i64 a1_2]) (t := 28) ?hr ?_; (case hd => rfl); (case hg => rfl); (case hr => first | (go_simp; done) | (go_simp; rfl)); intro gb286 hg w5 hbox hb; have n0_ := Am (blk_below (g := gb285) (o := .cells #[.slice A0_0 l0_0.length c0_0, .slice A0_1 l0_1.length c0_1] 25 (0, 0)) (by (with_reducible repeat (first | refine bn ?_ _ | refine bd ?_ | refine ba ?_ _)); exact BK285.out) hb); have n1_ := Am (below_step (by repeat (first | (with_reducible first | exact HB.out | apply bl | apply pN | apply b1 | refine bs ?_ GE285.out) | exact HB.out | exact HBo.out)) hb); have n2_ := Am (hbox); have n3_ := Am ((by rw [hg]; exact (below_size (by repeat (first | (with_reducible first | exact HB.out | apply bl | apply pN | apply b1 | refine bs ?_ GE285.out) | exact HB.out | exact HBo.out))) : w.heap.size ≤ gb286)); have n4_ := Am ((by rw [hg]; exact (below_size (by repeat (first | (with_reducible first | exact HB.out | apply bl | apply pN | apply b1 | refine bs ?_ GE285.out) | exact HB.out | exact HBo.out))) : w.heap.size ≤ gb286)); have n5_ := Am ((by rw [hg]; exact Nat.ne_of_lt (blk_lt (g := gb285) (o := .cells #[.slice A0_0 l0_0.length c0_0, .slice A0_1 l0_1.length c0_1] 25 (0, 0)) (by (with_reducible repeat (first | refine bn ?_ _ | refine bd ?_ | refine ba ?_ _)); exact BK285.out)) : gb285 ≠ gb286)); have n6_ := Am ((by rw [hg]; exact Nat.ne_of_gt (blk_lt (g := gb285) (o := .cells #[.slice A0_0 l0_0.length c0_0, .slice A0_1 l0_1.length c0_1] 25 (0, 0)) (by (with_reducible repeat (first | refine bn ?_ _ | refine bd ?_ | refine ba ?_ _)); exact BK285.out)) : gb286 ≠ gb285)); clear BK285; clear HB; have BK285 := n0_; have HB := n1_; have BK286 := n2_; have GW286 := n3_; have GE286 := n4_; have NB285_286 := n5_; have NB286_285 := n6_; clear n0_ n1_ n2_ n3_ n4_ n5_ n6_; clear hb hbox hg))
 (try simp only [Act.put, sI, sZ, sS])
 go_cut [35] (fun v35 wc => ∃ (kq : Nat) (x35_2 : Bool), v35 = .bool x35_2 ∧ Aside0 (shuttlecocklaw06_InternTells.j0 kq x35_2 l0_0 l0_1 a1_0 l1_1 a1_2 = some r) ∧ Aside0 (kq ≤ k) ∧ Aside0 (wc.heap[gb285]? = some (.cells #[(.slice A0_0 l0_0.length c0_0), (.slice A0_1 l0_1.length c0_1)] 25 (0, 0))) ∧ Aside0 (wc.heap[gb286]? = some (.cells #[.string a1_0, (.slice A1_1 l1_1.length c1_1), .int .i64 a1_2] 28 (0, 0))) ∧ Aside0 (Below w.heap.size w wc))
 case first =>
  have H := HC3.out
  clear HC3
  replace H := ob H
  obtain ⟨t287, A60, H⟩ := H
  replace H : (if t287 = true then ((shuttlecockref06_Few.f k l1_1).bind fun t288 => (if t288 = true then (shuttlecocklaw06_InternTells.j0 k (decide ((a1_0.size : Int) > 1100)) l0_0 l0_1 a1_0 l1_1 a1_2) else (shuttlecocklaw06_InternTells.j0 k true l0_0 l0_1 a1_0 l1_1 a1_2))) else (shuttlecocklaw06_InternTells.j0 k true l0_0 l0_1 a1_0 l1_1 a1_2)) = some r := H
  have A6 := Am A60
  clear A60
  by_cases c7 : t287 = true
  ·
   subst c7
   have H1 : ((shuttlecockref06_Few.f k l1_1).bind fun t288 => (if t288 = true then (shuttlecocklaw06_InternTells.j0 k (decide ((a1_0.size : Int) > 1100)) l0_0 l0_1 a1_0 l1_1 a1_2) else (shuttlecocklaw06_InternTells.j0 k true l0_0 l0_1 a1_0 l1_1 a1_2))) = some r := by rw [if_pos rfl] at H; exact H
   clear H
   have H := H1
   clear H1
   replace H := ob H
   obtain ⟨t288, A80, H⟩ := H
   replace H : (if t288 = true then (shuttlecocklaw06_InternTells.j0 k (decide ((a1_0.size : Int) > 1100)) l0_0 l0_1 a1_0 l1_1 a1_2) else (shuttlecocklaw06_InternTells.j0 k true l0_0 l0_1 a1_0 l1_1 a1_2)) = some r := H
   have A8 := Am A80
   clear A80
   by_cases c9 : t288 = true
   ·
    subst c9
    have H1 : (shuttlecocklaw06_InternTells.j0 k (decide ((a1_0.size : Int) > 1100)) l0_0 l0_1 a1_0 l1_1 a1_2) = some r := by rw [if_pos rfl] at H; exact H
    clear H
    have H := H1
    clear H1
    have H' := Am H
    clear H
    have hnb10 := NB285_286.out
    have hnc10 := NB286_285.out
    have hcz11_0 : w5.cell? ⟨gb285, 0, none⟩ = some (.slice A0_0 l0_0.length c0_0) := (bc BK285.out 0).trans rfl
    have hcz11_1 : w5.cell? ⟨gb285, 1, none⟩ = some (.slice A0_1 l0_1.length c0_1) := (bc BK285.out 1).trans rfl
    have hfz11_0 := bf BK285.out 0
    have hfz11_1 := bf BK285.out 1
    go_wp2_with (first | ((with_reducible refine gate_callee (f := 8) rfl ?_); refine goesL_ (some 22) rfl rfl Try.func8 (by kernel_rfl) rfl #[.agg #[.slice A0_0 l0_0.length c0_0, .slice A0_1 l0_1.length c0_1]] rfl (by (try simp only [List.map_toArray, List.map_cons, List.map_nil]); first | done | rfl | (simp only [List.length_drop, List.length_take]; rfl)) ?_; (with_reducible refine (shuttlecockref06_Small.calls k _ _ l0_0 _ _ l0_1 true _ ?side1 ?side2 ?side3 ?side4 A6.out).mono ?_); (case side1 => repeat (first | exact (Kd.C_below HR0_0.out HB.out) | (with_reducible refine Kd.C_alloc ?_ _) | (with_reducible refine Kd.C_drewN ?_ _) | (with_reducible refine Kd.C_drew ?_))); (case side2 => exact HC0_0.out); (case side3 => repeat (first | exact (Kd.C_below HR0_1.out HB.out) | (with_reducible refine Kd.C_alloc ?_ _) | (with_reducible refine Kd.C_drewN ?_ _) | (with_reducible refine Kd.C_drew ?_))); (case side4 => exact HC0_1.out); rintro e w12 ⟨rfl, hb⟩; refine ⟨_, rfl, ?_⟩; have n0_ := Am (blk_below (g := gb285) (o := .cells #[.slice A0_0 l0_0.length c0_0, .slice A0_1 l0_1.length c0_1] 25 (0, 0)) (by (with_reducible repeat (first | refine bn ?_ _ | refine bd ?_ | refine ba ?_ _)); exact BK285.out) hb); have n1_ := Am (blk_below (g := gb286) (o := .cells #[.string a1_0, .slice A1_1 l1_1.length c1_1, .int .i64 a1_2] 28 (0, 0)) (by (with_reducible repeat (first | refine bn ?_ _ | refine bd ?_ | refine ba ?_ _)); exact BK286.out) hb); have n2_ := Am (below_step (by repeat (first | (with_reducible first | exact HB.out | apply bl | apply pN | apply b1 | refine bs ?_ GE285.out | refine bs ?_ GE286.out) | exact HB.out | exact HBo.out)) hb); clear BK285; clear BK286; clear HB; have BK285 := n0_; have BK286 := n1_; have HB := n2_; clear n0_ n1_ n2_; (try clear hb); (try clear hb2); (try clear hk); (try clear hi); have hcz13_0 : w12.cell? ⟨gb286, 0, none⟩ = some (.string a1_0) := (bc BK286.out 0).trans rfl; have hcz13_1 : w12.cell? ⟨gb286, 1, none⟩ = some (.slice A1_1 l1_1.length c1_1) := (bc BK286.out 1).trans rfl; have hcz13_2 : w12.cell? ⟨gb286, 2, none⟩ = some (.int .i64 a1_2) := (bc BK286.out 2).trans rfl; have hfz13_0 := bf BK286.out 0; have hfz13_1 := bf BK286.out 1; have hfz13_2 := bf BK286.out 2) | (go_at_call 9; (with_reducible refine (shuttlecockref06_Few.calls k _ _ l1_1 true _ ?side1 ?side2 A8.out).mono ?_); (case side1 => repeat (first | exact (Kd.C_below HR1_1.out HB.out) | (with_reducible refine Kd.C_alloc ?_ _) | (with_reducible refine Kd.C_drewN ?_ _) | (with_reducible refine Kd.C_drew ?_))); (case side2 => exact HC1_1.out); rintro e w' ⟨rfl, ⟨nd, rfl⟩⟩))
    go_meet
    case rel => exact ⟨_, (decide ((a1_0.size : Int) > 1100)), (by first | rfl | (simp; done) | (simp [*]; done)), H', ⟨by first | omega | exact Nat.le_refl _⟩, ⟨by (with_reducible repeat (first | refine bn ?_ _ | refine bd ?_ | refine ba ?_ _)); exact BK285.out⟩, ⟨by (with_reducible repeat (first | refine bn ?_ _ | refine bd ?_ | refine ba ?_ _)); exact BK286.out⟩, ⟨by repeat (first | (with_reducible first | exact HB.out | apply bl | apply pN | apply b1 | refine bs ?_ GE285.out | refine bs ?_ GE286.out) | exact HB.out | exact HBo.out)⟩⟩
   ·
    replace c9 := Bool.eq_false_iff.mpr c9
    subst c9
    have H1 : (shuttlecocklaw06_InternTells.j0 k true l0_0 l0_1 a1_0 l1_1 a1_2) = some r := by rw [if_neg (show ¬ (false = true) by decide)] at H; exact H
    clear H
    have H := H1
    clear H1
    have H' := Am H
    clear H
    have hnb14 := NB285_286.out
    have hnc14 := NB286_285.out
    have hcz15_0 : w5.cell? ⟨gb285, 0, none⟩ = some (.slice A0_0 l0_0.length c0_0) := (bc BK285.out 0).trans rfl
    have hcz15_1 : w5.cell? ⟨gb285, 1, none⟩ = some (.slice A0_1 l0_1.length c0_1) := (bc BK285.out 1).trans rfl
    have hfz15_0 := bf BK285.out 0
    have hfz15_1 := bf BK285.out 1
    go_wp2_with (first | ((with_reducible refine gate_callee (f := 8) rfl ?_); refine goesL_ (some 22) rfl rfl Try.func8 (by kernel_rfl) rfl #[.agg #[.slice A0_0 l0_0.length c0_0, .slice A0_1 l0_1.length c0_1]] rfl (by (try simp only [List.map_toArray, List.map_cons, List.map_nil]); first | done | rfl | (simp only [List.length_drop, List.length_take]; rfl)) ?_; (with_reducible refine (shuttlecockref06_Small.calls k _ _ l0_0 _ _ l0_1 true _ ?side1 ?side2 ?side3 ?side4 A6.out).mono ?_); (case side1 => repeat (first | exact (Kd.C_below HR0_0.out HB.out) | (with_reducible refine Kd.C_alloc ?_ _) | (with_reducible refine Kd.C_drewN ?_ _) | (with_reducible refine Kd.C_drew ?_))); (case side2 => exact HC0_0.out); (case side3 => repeat (first | exact (Kd.C_below HR0_1.out HB.out) | (with_reducible refine Kd.C_alloc ?_ _) | (with_reducible refine Kd.C_drewN ?_ _) | (with_reducible refine Kd.C_drew ?_))); (case side4 => exact HC0_1.out); rintro e w16 ⟨rfl, hb⟩; refine ⟨_, rfl, ?_⟩; have n0_ := Am (blk_below (g := gb285) (o := .cells #[.slice A0_0 l0_0.length c0_0, .slice A0_1 l0_1.length c0_1] 25 (0, 0)) (by (with_reducible repeat (first | refine bn ?_ _ | refine bd ?_ | refine ba ?_ _)); exact BK285.out) hb); have n1_ := Am (blk_below (g := gb286) (o := .cells #[.string a1_0, .slice A1_1 l1_1.length c1_1, .int .i64 a1_2] 28 (0, 0)) (by (with_reducible repeat (first | refine bn ?_ _ | refine bd ?_ | refine ba ?_ _)); exact BK286.out) hb); have n2_ := Am (below_step (by repeat (first | (with_reducible first | exact HB.out | apply bl | apply pN | apply b1 | refine bs ?_ GE285.out | refine bs ?_ GE286.out) | exact HB.out | exact HBo.out)) hb); clear BK285; clear BK286; clear HB; have BK285 := n0_; have BK286 := n1_; have HB := n2_; clear n0_ n1_ n2_; (try clear hb); (try clear hb2); (try clear hk); (try clear hi); have hcz17_0 : w16.cell? ⟨gb286, 0, none⟩ = some (.string a1_0) := (bc BK286.out 0).trans rfl; have hcz17_1 : w16.cell? ⟨gb286, 1, none⟩ = some (.slice A1_1 l1_1.length c1_1) := (bc BK286.out 1).trans rfl; have hcz17_2 : w16.cell? ⟨gb286, 2, none⟩ = some (.int .i64 a1_2) := (bc BK286.out 2).trans rfl; have hfz17_0 := bf BK286.out 0; have hfz17_1 := bf BK286.out 1; have hfz17_2 := bf BK286.out 2) | (go_at_call 9; (with_reducible refine (shuttlecockref06_Few.calls k _ _ l1_1 false _ ?side1 ?side2 A8.out).mono ?_); (case side1 => repeat (first | exact (Kd.C_below HR1_1.out HB.out) | (with_reducible refine Kd.C_alloc ?_ _) | (with_reducible refine Kd.C_drewN ?_ _) | (with_reducible refine Kd.C_drew ?_))); (case side2 => exact HC1_1.out); rintro e w' ⟨rfl, ⟨nd, rfl⟩⟩))
    go_meet
    case rel => exact ⟨_, (true), (by first | rfl | (simp; done) | (simp [*]; done)), H', ⟨by first | omega | exact Nat.le_refl _⟩, ⟨by (with_reducible repeat (first | refine bn ?_ _ | refine bd ?_ | refine ba ?_ _)); exact BK285.out⟩, ⟨by (with_reducible repeat (first | refine bn ?_ _ | refine bd ?_ | refine ba ?_ _)); exact BK286.out⟩, ⟨by repeat (first | (with_reducible first | exact HB.out | apply bl | apply pN | apply b1 | refine bs ?_ GE285.out | refine bs ?_ GE286.out) | exact HB.out | exact HBo.out)⟩⟩
  ·
   replace c7 := Bool.eq_false_iff.mpr c7
   subst c7
   have H1 : (shuttlecocklaw06_InternTells.j0 k true l0_0 l0_1 a1_0 l1_1 a1_2) = some r := by rw [if_neg (show ¬ (false = true) by decide)] at H; exact H
   clear H
   have H := H1
   clear H1
   have H' := Am H
   clear H
   have hnb18 := NB285_286.out
   have hnc18 := NB286_285.out
   have hcz19_0 : w5.cell? ⟨gb285, 0, none⟩ = some (.slice A0_0 l0_0.length c0_0) := (bc BK285.out 0).trans rfl
   have hcz19_1 : w5.cell? ⟨gb285, 1, none⟩ = some (.slice A0_1 l0_1.length c0_1) := (bc BK285.out 1).trans rfl
   have hfz19_0 := bf BK285.out 0
   have hfz19_1 := bf BK285.out 1
   go_wp2_with (first | ((with_reducible refine gate_callee (f := 8) rfl ?_); refine goesL_ (some 22) rfl rfl Try.func8 (by kernel_rfl) rfl #[.agg #[.slice A0_0 l0_0.length c0_0, .slice A0_1 l0_1.length c0_1]] rfl (by (try simp only [List.map_toArray, List.map_cons, List.map_nil]); first | done | rfl | (simp only [List.length_drop, List.length_take]; rfl)) ?_; (with_reducible refine (shuttlecockref06_Small.calls k _ _ l0_0 _ _ l0_1 false _ ?side1 ?side2 ?side3 ?side4 A6.out).mono ?_); (case side1 => repeat (first | exact (Kd.C_below HR0_0.out HB.out) | (with_reducible refine Kd.C_alloc ?_ _) | (with_reducible refine Kd.C_drewN ?_ _) | (with_reducible refine Kd.C_drew ?_))); (case side2 => exact HC0_0.out); (case side3 => repeat (first | exact (Kd.C_below HR0_1.out HB.out) | (with_reducible refine Kd.C_alloc ?_ _) | (with_reducible refine Kd.C_drewN ?_ _) | (with_reducible refine Kd.C_drew ?_))); (case side4 => exact HC0_1.out); rintro e w20 ⟨rfl, hb⟩; refine ⟨_, rfl, ?_⟩; have n0_ := Am (blk_below (g := gb285) (o := .cells #[.slice A0_0 l0_0.length c0_0, .slice A0_1 l0_1.length c0_1] 25 (0, 0)) (by (with_reducible repeat (first | refine bn ?_ _ | refine bd ?_ | refine ba ?_ _)); exact BK285.out) hb); have n1_ := Am (blk_below (g := gb286) (o := .cells #[.string a1_0, .slice A1_1 l1_1.length c1_1, .int .i64 a1_2] 28 (0, 0)) (by (with_reducible repeat (first | refine bn ?_ _ | refine bd ?_ | refine ba ?_ _)); exact BK286.out) hb); have n2_ := Am (below_step (by repeat (first | (with_reducible first | exact HB.out | apply bl | apply pN | apply b1 | refine bs ?_ GE285.out | refine bs ?_ GE286.out) | exact HB.out | exact HBo.out)) hb); clear BK285; clear BK286; clear HB; have BK285 := n0_; have BK286 := n1_; have HB := n2_; clear n0_ n1_ n2_; (try clear hb); (try clear hb2); (try clear hk); (try clear hi)))
   go_meet
   case rel => exact ⟨_, (true), (by first | rfl | (simp; done) | (simp [*]; done)), H', ⟨by first | omega | exact Nat.le_refl _⟩, ⟨by (with_reducible repeat (first | refine bn ?_ _ | refine bd ?_ | refine ba ?_ _)); exact BK285.out⟩, ⟨by (with_reducible repeat (first | refine bn ?_ _ | refine bd ?_ | refine ba ?_ _)); exact BK286.out⟩, ⟨by repeat (first | (with_reducible first | exact HB.out | apply bl | apply pN | apply b1 | refine bs ?_ GE285.out | refine bs ?_ GE286.out) | exact HB.out | exact HBo.out)⟩⟩
 case rest =>
  clear HC3
  try clear c1
  try clear p2
  try clear c3
  try clear c7
  try clear c8
  try clear c9
  try clear c10
  try clear c14
  try clear c18
  try clear hcz11_0
  try clear hcz11_1
  try clear hcz13_0
  try clear hcz13_1
  try clear hcz13_2
  try clear hcz15_0
  try clear hcz15_1
  try clear hcz17_0
  try clear hcz17_1
  try clear hcz17_2
  try clear hcz19_0
  try clear hcz19_1
  try clear hfz11_0
  try clear hfz11_1
  try clear hfz13_0
  try clear hfz13_1
  try clear hfz13_2
  try clear hfz15_0
  try clear hfz15_1
  try clear hfz17_0
  try clear hfz17_1
  try clear hfz17_2
  try clear hfz19_0
  try clear hfz19_1
  obtain ⟨kq, x35_2, rfl, HA, HJ2, BK285, BK286, HB⟩ := hcut
  cases kq with
  | zero => exact absurd HA.out (by simp [shuttlecocklaw06_InternTells.j0])
  | succ kj2 =>
   have H := HA.out
   clear HA
   simp only [shuttlecocklaw06_InternTells.j0] at H
   by_cases c21 : x35_2 = true
   ·
    subst c21
    have H1 : ((shuttlecocklaw06_fixed.f kj2).bind fun t289 => (some t289)) = some r := by rw [if_pos rfl] at H; exact H
    clear H
    have H := H1
    clear H1
    replace H := ob H
    obtain ⟨t289, A220, H⟩ := H
    replace H : (some t289) = some r := H
    have A22 := Am A220
    clear A220
    obtain rfl := Option.some.inj H
    go_wp2_with (first | ((with_reducible refine gate_callee (f := 10) rfl ?_); refine goesL_ (some 36) rfl rfl Try.func10 (by kernel_rfl) rfl #[] rfl (by (try simp only [List.map_toArray, List.map_cons, List.map_nil]); first | done | rfl | (simp only [List.length_drop, List.length_take]; rfl)) ?_; (with_reducible refine (shuttlecocklaw06_fixed.calls kj2  t289 _ A22.out).mono ?_); rintro e w23 ⟨rfl, hb⟩; refine ⟨_, rfl, ?_⟩; have n0_ := Am (blk_below (g := gb285) (o := .cells #[.slice A0_0 l0_0.length c0_0, .slice A0_1 l0_1.length c0_1] 25 (0, 0)) (by (with_reducible repeat (first | refine bn ?_ _ | refine bd ?_ | refine ba ?_ _)); exact BK285.out) hb); have n1_ := Am (blk_below (g := gb286) (o := .cells #[.string a1_0, .slice A1_1 l1_1.length c1_1, .int .i64 a1_2] 28 (0, 0)) (by (with_reducible repeat (first | refine bn ?_ _ | refine bd ?_ | refine ba ?_ _)); exact BK286.out) hb); have n2_ := Am (below_step (by repeat (first | (with_reducible first | exact HB.out | apply bl | apply pN | apply b1 | refine bs ?_ GE285.out | refine bs ?_ GE286.out) | exact HB.out | exact HBo.out)) hb); clear BK285; clear BK286; clear HB; have BK285 := n0_; have BK286 := n1_; have HB := n2_; clear n0_ n1_ n2_; (try clear hb); (try clear hb2); (try clear hk); (try clear hi)))
    go_ret
    exact ⟨by first | rfl | (simp [errW_none, errW_some] <;> rfl) | (simp [*, errW_none, errW_some] <;> rfl) | (simp [Aid.ne_nil, Aid.eq_nil, errW_none, errW_some]; done), by repeat (first | (with_reducible first | exact HB.out | apply bl | apply pN | apply b1 | refine bs ?_ GE285.out | refine bs ?_ GE286.out) | exact HB.out | exact HBo.out)⟩
   ·
    replace c21 := Bool.eq_false_iff.mpr c21
    subst c21
    have H1 : ((intern_String.f kj2 l0_0 l0_1 a1_0).bind fun bt290 => ((shuttlecockref06_String.f kj2 l0_0 l0_1 a1_0).bind fun bt298 => ((intern_Stack.f kj2 l0_0 l0_1 l1_1).bind fun bt306 => ((shuttlecockref06_Stack.f kj2 l0_0 l0_1 l1_1).bind fun bt314 => ((intern_Name.f kj2 l0_0 l0_1 a1_2).bind fun bt322 => ((shuttlecockref06_Name.f kj2 l0_0 l0_1 a1_2).bind fun bt324 => ((intern_Frames.f kj2 l0_0 l0_1 a1_2).bind fun bt326 => ((shuttlecockref06_Frames.f kj2 l0_0 l0_1 a1_2).bind fun bt330 => ((shuttlecocklaw06_fixed.f kj2).bind fun t334 => (if t334 = true then ((intern_May.f kj2 l0_0 l0_1).bind fun t335 => ((shuttlecockref06_May.f kj2 l0_0 l0_1).bind fun t336 => (if (t335 == t336) = true then ((shuttlecockref06_Same.f kj2 bt290.1 bt290.2.1 bt298.1 bt298.2.1).bind fun t337 => (if t337 = true then (if bt290.2.2 = bt298.2.2 then ((shuttlecockref06_Same.f kj2 bt306.1 bt306.2.1 bt314.1 bt314.2.1).bind fun t338 => (if t338 = true then (if bt306.2.2 = bt314.2.2 then (if bt322.1.toList = bt324.1.toList then (if (bt322.2 == bt324.2) = true then ((shuttlecockref06_SameFrames.f kj2 bt326.1 bt330.1).bind fun t339 => (if t339 = true then (some (bt326.2 == bt330.2)) else (none))) else (none)) else (none)) else (none)) else (none))) else (none)) else (none))) else (none)))) else (none))))))))))) = some r := by rw [if_neg (show ¬ (false = true) by decide)] at H; exact H
    clear H
    have H := H1
    clear H1
    replace H := ob H
    obtain ⟨⟨t290, t293, t296⟩, A240, H⟩ := H
    replace H : ((shuttlecockref06_String.f kj2 l0_0 l0_1 a1_0).bind fun bt298 => ((intern_Stack.f kj2 l0_0 l0_1 l1_1).bind fun bt306 => ((shuttlecockref06_Stack.f kj2 l0_0 l0_1 l1_1).bind fun bt314 => ((intern_Name.f kj2 l0_0 l0_1 a1_2).bind fun bt322 => ((shuttlecockref06_Name.f kj2 l0_0 l0_1 a1_2).bind fun bt324 => ((intern_Frames.f kj2 l0_0 l0_1 a1_2).bind fun bt326 => ((shuttlecockref06_Frames.f kj2 l0_0 l0_1 a1_2).bind fun bt330 => ((shuttlecocklaw06_fixed.f kj2).bind fun t334 => (if t334 = true then ((intern_May.f kj2 l0_0 l0_1).bind fun t335 => ((shuttlecockref06_May.f kj2 l0_0 l0_1).bind fun t336 => (if (t335 == t336) = true then ((shuttlecockref06_Same.f kj2 t290 t293 bt298.1 bt298.2.1).bind fun t337 => (if t337 = true then (if t296 = bt298.2.2 then ((shuttlecockref06_Same.f kj2 bt306.1 bt306.2.1 bt314.1 bt314.2.1).bind fun t338 => (if t338 = true then (if bt306.2.2 = bt314.2.2 then (if bt322.1.toList = bt324.1.toList then (if (bt322.2 == bt324.2) = true then ((shuttlecockref06_SameFrames.f kj2 bt326.1 bt330.1).bind fun t339 => (if t339 = true then (some (bt326.2 == bt330.2)) else (none))) else (none)) else (none)) else (none)) else (none))) else (none)) else (none))) else (none)))) else (none)))))))))) = some r := H
    have A24 := Am A240
    clear A240
    replace H := ob H
    obtain ⟨⟨t298, t301, t304⟩, A250, H⟩ := H
    replace H : ((intern_Stack.f kj2 l0_0 l0_1 l1_1).bind fun bt306 => ((shuttlecockref06_Stack.f kj2 l0_0 l0_1 l1_1).bind fun bt314 => ((intern_Name.f kj2 l0_0 l0_1 a1_2).bind fun bt322 => ((shuttlecockref06_Name.f kj2 l0_0 l0_1 a1_2).bind fun bt324 => ((intern_Frames.f kj2 l0_0 l0_1 a1_2).bind fun bt326 => ((shuttlecockref06_Frames.f kj2 l0_0 l0_1 a1_2).bind fun bt330 => ((shuttlecocklaw06_fixed.f kj2).bind fun t334 => (if t334 = true then ((intern_May.f kj2 l0_0 l0_1).bind fun t335 => ((shuttlecockref06_May.f kj2 l0_0 l0_1).bind fun t336 => (if (t335 == t336) = true then ((shuttlecockref06_Same.f kj2 t290 t293 t298 t301).bind fun t337 => (if t337 = true then (if t296 = t304 then ((shuttlecockref06_Same.f kj2 bt306.1 bt306.2.1 bt314.1 bt314.2.1).bind fun t338 => (if t338 = true then (if bt306.2.2 = bt314.2.2 then (if bt322.1.toList = bt324.1.toList then (if (bt322.2 == bt324.2) = true then ((shuttlecockref06_SameFrames.f kj2 bt326.1 bt330.1).bind fun t339 => (if t339 = true then (some (bt326.2 == bt330.2)) else (none))) else (none)) else (none)) else (none)) else (none))) else (none)) else (none))) else (none)))) else (none))))))))) = some r := H
    have A25 := Am A250
    clear A250
    replace H := ob H
    obtain ⟨⟨t306, t309, t312⟩, A260, H⟩ := H
    replace H : ((shuttlecockref06_Stack.f kj2 l0_0 l0_1 l1_1).bind fun bt314 => ((intern_Name.f kj2 l0_0 l0_1 a1_2).bind fun bt322 => ((shuttlecockref06_Name.f kj2 l0_0 l0_1 a1_2).bind fun bt324 => ((intern_Frames.f kj2 l0_0 l0_1 a1_2).bind fun bt326 => ((shuttlecockref06_Frames.f kj2 l0_0 l0_1 a1_2).bind fun bt330 => ((shuttlecocklaw06_fixed.f kj2).bind fun t334 => (if t334 = true then ((intern_May.f kj2 l0_0 l0_1).bind fun t335 => ((shuttlecockref06_May.f kj2 l0_0 l0_1).bind fun t336 => (if (t335 == t336) = true then ((shuttlecockref06_Same.f kj2 t290 t293 t298 t301).bind fun t337 => (if t337 = true then (if t296 = t304 then ((shuttlecockref06_Same.f kj2 t306 t309 bt314.1 bt314.2.1).bind fun t338 => (if t338 = true then (if t312 = bt314.2.2 then (if bt322.1.toList = bt324.1.toList then (if (bt322.2 == bt324.2) = true then ((shuttlecockref06_SameFrames.f kj2 bt326.1 bt330.1).bind fun t339 => (if t339 = true then (some (bt326.2 == bt330.2)) else (none))) else (none)) else (none)) else (none)) else (none))) else (none)) else (none))) else (none)))) else (none)))))))) = some r := H
    have A26 := Am A260
    clear A260
    replace H := ob H
    obtain ⟨⟨t314, t317, t320⟩, A270, H⟩ := H
    replace H : ((intern_Name.f kj2 l0_0 l0_1 a1_2).bind fun bt322 => ((shuttlecockref06_Name.f kj2 l0_0 l0_1 a1_2).bind fun bt324 => ((intern_Frames.f kj2 l0_0 l0_1 a1_2).bind fun bt326 => ((shuttlecockref06_Frames.f kj2 l0_0 l0_1 a1_2).bind fun bt330 => ((shuttlecocklaw06_fixed.f kj2).bind fun t334 => (if t334 = true then ((intern_May.f kj2 l0_0 l0_1).bind fun t335 => ((shuttlecockref06_May.f kj2 l0_0 l0_1).bind fun t336 => (if (t335 == t336) = true then ((shuttlecockref06_Same.f kj2 t290 t293 t298 t301).bind fun t337 => (if t337 = true then (if t296 = t304 then ((shuttlecockref06_Same.f kj2 t306 t309 t314 t317).bind fun t338 => (if t338 = true then (if t312 = t320 then (if bt322.1.toList = bt324.1.toList then (if (bt322.2 == bt324.2) = true then ((shuttlecockref06_SameFrames.f kj2 bt326.1 bt330.1).bind fun t339 => (if t339 = true then (some (bt326.2 == bt330.2)) else (none))) else (none)) else (none)) else (none)) else (none))) else (none)) else (none))) else (none)))) else (none))))))) = some r := H
    have A27 := Am A270
    clear A270
    replace H := ob H
    obtain ⟨⟨t322, t323⟩, A280, H⟩ := H
    replace H : ((shuttlecockref06_Name.f kj2 l0_0 l0_1 a1_2).bind fun bt324 => ((intern_Frames.f kj2 l0_0 l0_1 a1_2).bind fun bt326 => ((shuttlecockref06_Frames.f kj2 l0_0 l0_1 a1_2).bind fun bt330 => ((shuttlecocklaw06_fixed.f kj2).bind fun t334 => (if t334 = true then ((intern_May.f kj2 l0_0 l0_1).bind fun t335 => ((shuttlecockref06_May.f kj2 l0_0 l0_1).bind fun t336 => (if (t335 == t336) = true then ((shuttlecockref06_Same.f kj2 t290 t293 t298 t301).bind fun t337 => (if t337 = true then (if t296 = t304 then ((shuttlecockref06_Same.f kj2 t306 t309 t314 t317).bind fun t338 => (if t338 = true then (if t312 = t320 then (if t322.toList = bt324.1.toList then (if (t323 == bt324.2) = true then ((shuttlecockref06_SameFrames.f kj2 bt326.1 bt330.1).bind fun t339 => (if t339 = true then (some (bt326.2 == bt330.2)) else (none))) else (none)) else (none)) else (none)) else (none))) else (none)) else (none))) else (none)))) else (none)))))) = some r := H
    have A28 := Am A280
    clear A280
    replace H := ob H
    obtain ⟨⟨t324, t325⟩, A290, H⟩ := H
    replace H : ((intern_Frames.f kj2 l0_0 l0_1 a1_2).bind fun bt326 => ((shuttlecockref06_Frames.f kj2 l0_0 l0_1 a1_2).bind fun bt330 => ((shuttlecocklaw06_fixed.f kj2).bind fun t334 => (if t334 = true then ((intern_May.f kj2 l0_0 l0_1).bind fun t335 => ((shuttlecockref06_May.f kj2 l0_0 l0_1).bind fun t336 => (if (t335 == t336) = true then ((shuttlecockref06_Same.f kj2 t290 t293 t298 t301).bind fun t337 => (if t337 = true then (if t296 = t304 then ((shuttlecockref06_Same.f kj2 t306 t309 t314 t317).bind fun t338 => (if t338 = true then (if t312 = t320 then (if t322.toList = t324.toList then (if (t323 == t325) = true then ((shuttlecockref06_SameFrames.f kj2 bt326.1 bt330.1).bind fun t339 => (if t339 = true then (some (bt326.2 == bt330.2)) else (none))) else (none)) else (none)) else (none)) else (none))) else (none)) else (none))) else (none)))) else (none))))) = some r := H
    have A29 := Am A290
    clear A290
    replace H := ob H
    obtain ⟨⟨t326, t329⟩, A300, H⟩ := H
    replace H : ((shuttlecockref06_Frames.f kj2 l0_0 l0_1 a1_2).bind fun bt330 => ((shuttlecocklaw06_fixed.f kj2).bind fun t334 => (if t334 = true then ((intern_May.f kj2 l0_0 l0_1).bind fun t335 => ((shuttlecockref06_May.f kj2 l0_0 l0_1).bind fun t336 => (if (t335 == t336) = true then ((shuttlecockref06_Same.f kj2 t290 t293 t298 t301).bind fun t337 => (if t337 = true then (if t296 = t304 then ((shuttlecockref06_Same.f kj2 t306 t309 t314 t317).bind fun t338 => (if t338 = true then (if t312 = t320 then (if t322.toList = t324.toList then (if (t323 == t325) = true then ((shuttlecockref06_SameFrames.f kj2 t326 bt330.1).bind fun t339 => (if t339 = true then (some (t329 == bt330.2)) else (none))) else (none)) else (none)) else (none)) else (none))) else (none)) else (none))) else (none)))) else (none)))) = some r := H
    have A30 := Am A300
    clear A300
    replace H := ob H
    obtain ⟨⟨t330, t333⟩, A310, H⟩ := H
    replace H : ((shuttlecocklaw06_fixed.f kj2).bind fun t334 => (if t334 = true then ((intern_May.f kj2 l0_0 l0_1).bind fun t335 => ((shuttlecockref06_May.f kj2 l0_0 l0_1).bind fun t336 => (if (t335 == t336) = true then ((shuttlecockref06_Same.f kj2 t290 t293 t298 t301).bind fun t337 => (if t337 = true then (if t296 = t304 then ((shuttlecockref06_Same.f kj2 t306 t309 t314 t317).bind fun t338 => (if t338 = true then (if t312 = t320 then (if t322.toList = t324.toList then (if (t323 == t325) = true then ((shuttlecockref06_SameFrames.f kj2 t326 t330).bind fun t339 => (if t339 = true then (some (t329 == t333)) else (none))) else (none)) else (none)) else (none)) else (none))) else (none)) else (none))) else (none)))) else (none))) = some r := H
    have A31 := Am A310
    clear A310
    replace H := ob H
    obtain ⟨t334, A320, H⟩ := H
    replace H : (if t334 = true then ((intern_May.f kj2 l0_0 l0_1).bind fun t335 => ((shuttlecockref06_May.f kj2 l0_0 l0_1).bind fun t336 => (if (t335 == t336) = true then ((shuttlecockref06_Same.f kj2 t290 t293 t298 t301).bind fun t337 => (if t337 = true then (if t296 = t304 then ((shuttlecockref06_Same.f kj2 t306 t309 t314 t317).bind fun t338 => (if t338 = true then (if t312 = t320 then (if t322.toList = t324.toList then (if (t323 == t325) = true then ((shuttlecockref06_SameFrames.f kj2 t326 t330).bind fun t339 => (if t339 = true then (some (t329 == t333)) else (none))) else (none)) else (none)) else (none)) else (none))) else (none)) else (none))) else (none)))) else (none)) = some r := H
    have A32 := Am A320
    clear A320
    by_cases c33 : t334 = true
    ·
     subst c33
     have H1 : ((intern_May.f kj2 l0_0 l0_1).bind fun t335 => ((shuttlecockref06_May.f kj2 l0_0 l0_1).bind fun t336 => (if (t335 == t336) = true then ((shuttlecockref06_Same.f kj2 t290 t293 t298 t301).bind fun t337 => (if t337 = true then (if t296 = t304 then ((shuttlecockref06_Same.f kj2 t306 t309 t314 t317).bind fun t338 => (if t338 = true then (if t312 = t320 then (if t322.toList = t324.toList then (if (t323 == t325) = true then ((shuttlecockref06_SameFrames.f kj2 t326 t330).bind fun t339 => (if t339 = true then (some (t329 == t333)) else (none))) else (none)) else (none)) else (none)) else (none))) else (none)) else (none))) else (none)))) = some r := by rw [if_pos rfl] at H; exact H
     clear H
     have H := H1
     clear H1
     replace H := ob H
     obtain ⟨t335, A340, H⟩ := H
     replace H : ((shuttlecockref06_May.f kj2 l0_0 l0_1).bind fun t336 => (if (t335 == t336) = true then ((shuttlecockref06_Same.f kj2 t290 t293 t298 t301).bind fun t337 => (if t337 = true then (if t296 = t304 then ((shuttlecockref06_Same.f kj2 t306 t309 t314 t317).bind fun t338 => (if t338 = true then (if t312 = t320 then (if t322.toList = t324.toList then (if (t323 == t325) = true then ((shuttlecockref06_SameFrames.f kj2 t326 t330).bind fun t339 => (if t339 = true then (some (t329 == t333)) else (none))) else (none)) else (none)) else (none)) else (none))) else (none)) else (none))) else (none))) = some r := H
     have A34 := Am A340
     clear A340
     replace H := ob H
     obtain ⟨t336, A350, H⟩ := H
     replace H : (if (t335 == t336) = true then ((shuttlecockref06_Same.f kj2 t290 t293 t298 t301).bind fun t337 => (if t337 = true then (if t296 = t304 then ((shuttlecockref06_Same.f kj2 t306 t309 t314 t317).bind fun t338 => (if t338 = true then (if t312 = t320 then (if t322.toList = t324.toList then (if (t323 == t325) = true then ((shuttlecockref06_SameFrames.f kj2 t326 t330).bind fun t339 => (if t339 = true then (some (t329 == t333)) else (none))) else (none)) else (none)) else (none)) else (none))) else (none)) else (none))) else (none)) = some r := H
     have A35 := Am A350
     clear A350
     by_cases c36 : (t335 == t336) = true
     ·
      rw [if_pos c36] at H
      have c36b0 : (t335 == t336) = true := c36
      (try (have c36b1 : decide (t335 = t336) = true := by simpa using c36))
      (try (have c36b2 : (t335 == t336) = true := by simpa using c36))
      clear c36
      replace H := ob H
      obtain ⟨t337, A370, H⟩ := H
      replace H : (if t337 = true then (if t296 = t304 then ((shuttlecockref06_Same.f kj2 t306 t309 t314 t317).bind fun t338 => (if t338 = true then (if t312 = t320 then (if t322.toList = t324.toList then (if (t323 == t325) = true then ((shuttlecockref06_SameFrames.f kj2 t326 t330).bind fun t339 => (if t339 = true then (some (t329 == t333)) else (none))) else (none)) else (none)) else (none)) else (none))) else (none)) else (none)) = some r := H
      have A37 := Am A370
      clear A370
      by_cases c38 : t337 = true
      ·
       subst c38
       have H1 : (if t296 = t304 then ((shuttlecockref06_Same.f kj2 t306 t309 t314 t317).bind fun t338 => (if t338 = true then (if t312 = t320 then (if t322.toList = t324.toList then (if (t323 == t325) = true then ((shuttlecockref06_SameFrames.f kj2 t326 t330).bind fun t339 => (if t339 = true then (some (t329 == t333)) else (none))) else (none)) else (none)) else (none)) else (none))) else (none)) = some r := by rw [if_pos rfl] at H; exact H
       clear H
       have H := H1
       clear H1
       by_cases c39 : t296 = t304
       ·
        rw [if_pos c39] at H
        have c39b0 : (t296 == t304) = true := beq_iff_eq.mpr c39
        have c39b1 : (t296 != t304) = false := bne_eq_false_iff_eq.mpr c39
        clear c39
        replace H := ob H
        obtain ⟨t338, A400, H⟩ := H
        replace H : (if t338 = true then (if t312 = t320 then (if t322.toList = t324.toList then (if (t323 == t325) = true then ((shuttlecockref06_SameFrames.f kj2 t326 t330).bind fun t339 => (if t339 = true then (some (t329 == t333)) else (none))) else (none)) else (none)) else (none)) else (none)) = some r := H
        have A40 := Am A400
        clear A400
        by_cases c41 : t338 = true
        ·
         subst c41
         have H1 : (if t312 = t320 then (if t322.toList = t324.toList then (if (t323 == t325) = true then ((shuttlecockref06_SameFrames.f kj2 t326 t330).bind fun t339 => (if t339 = true then (some (t329 == t333)) else (none))) else (none)) else (none)) else (none)) = some r := by rw [if_pos rfl] at H; exact H
         clear H
         have H := H1
         clear H1
         by_cases c42 : t312 = t320
         ·
          rw [if_pos c42] at H
          have c42b0 : (t312 == t320) = true := beq_iff_eq.mpr c42
          have c42b1 : (t312 != t320) = false := bne_eq_false_iff_eq.mpr c42
          clear c42
          by_cases c43 : t322.toList = t324.toList
          ·
           rw [if_pos c43] at H
           have c43b0 : (t322.toList == t324.toList) = true := beq_iff_eq.mpr c43
           have c43b1 : (t322.toList != t324.toList) = false := bne_eq_false_iff_eq.mpr c43
           clear c43
           by_cases c44 : (t323 == t325) = true
           ·
            rw [if_pos c44] at H
            have c44b0 : (t323 == t325) = true := c44
            (try (have c44b1 : decide (t323 = t325) = true := by simpa using c44))
            (try (have c44b2 : (t323 == t325) = true := by simpa using c44))
            clear c44
            replace H := ob H
            obtain ⟨t339, A450, H⟩ := H
            replace H : (if t339 = true then (some (t329 == t333)) else (none)) = some r := H
            have A45 := Am A450
            clear A450
            by_cases c46 : t339 = true
            ·
             subst c46
             have H1 : (some (t329 == t333)) = some r := by rw [if_pos rfl] at H; exact H
             clear H
             have H := H1
             clear H1
             obtain rfl := Option.some.inj H
             have hnb47 := NB285_286.out
             have hnc47 := NB286_285.out
             have hcz48_0 : wc.cell? ⟨gb285, 0, none⟩ = some (.slice A0_0 l0_0.length c0_0) := (bc BK285.out 0).trans rfl
             have hcz48_1 : wc.cell? ⟨gb285, 1, none⟩ = some (.slice A0_1 l0_1.length c0_1) := (bc BK285.out 1).trans rfl
             have hfz48_0 := bf BK285.out 0
             have hfz48_1 := bf BK285.out 1
             have hcz49_0 : wc.cell? ⟨gb286, 0, none⟩ = some (.string a1_0) := (bc BK286.out 0).trans rfl
             have hcz49_1 : wc.cell? ⟨gb286, 1, none⟩ = some (.slice A1_1 l1_1.length c1_1) := (bc BK286.out 1).trans rfl
             have hcz49_2 : wc.cell? ⟨gb286, 2, none⟩ = some (.int .i64 a1_2) := (bc BK286.out 2).trans rfl
             have hfz49_0 := bf BK286.out 0
             have hfz49_1 := bf BK286.out 1
             have hfz49_2 := bf BK286.out 2
             try go_wp2_with (first | ((with_reducible refine gate_callee (f := 11) rfl ?_); refine goesL_ (some 41) rfl rfl Try.func11 (by kernel_rfl) rfl #[.agg #[.slice A0_0 l0_0.length c0_0, .slice A0_1 l0_1.length c0_1], .string a1_0] rfl (by (try simp only [List.map_toArray, List.map_cons, List.map_nil]); first | done | rfl | (simp only [List.length_drop, List.length_take]; rfl)) ?_; (with_reducible refine (intern_String.calls kj2 _ _ l0_0 _ _ l0_1 a1_0 t290 t293 t296 _ ?side1 ?side2 ?side3 ?side4 A24.out).mono ?_); (case side1 => repeat (first | exact (Kd.C_below HR0_0.out HB.out) | (with_reducible refine Kd.C_alloc ?_ _) | (with_reducible refine Kd.C_drewN ?_ _) | (with_reducible refine Kd.C_drew ?_))); (case side2 => exact HC0_0.out); (case side3 => repeat (first | exact (Kd.C_below HR0_1.out HB.out) | (with_reducible refine Kd.C_alloc ?_ _) | (with_reducible refine Kd.C_drewN ?_ _) | (with_reducible refine Kd.C_drew ?_))); (case side4 => exact HC0_1.out); rintro e w50 ⟨v291, v294, rfl, ho0, ho1, hb⟩; refine ⟨_, rfl, ?_⟩; have n0_ := Am (Kd.R_lower ho0 (below_size (by repeat (first | (with_reducible first | exact HB.out | apply bl | apply pN | apply b1 | refine bs ?_ GE285.out | refine bs ?_ GE286.out) | exact HB.out | exact HBo.out)))); have n1_ := Am (Kd.S_lower ho1 (below_size (by repeat (first | (with_reducible first | exact HB.out | apply bl | apply pN | apply b1 | refine bs ?_ GE285.out | refine bs ?_ GE286.out) | exact HB.out | exact HBo.out)))); have n2_ := Am (blk_below (g := gb285) (o := .cells #[.slice A0_0 l0_0.length c0_0, .slice A0_1 l0_1.length c0_1] 25 (0, 0)) (by (with_reducible repeat (first | refine bn ?_ _ | refine bd ?_ | refine ba ?_ _)); exact BK285.out) hb); have n3_ := Am (blk_below (g := gb286) (o := .cells #[.string a1_0, .slice A1_1 l1_1.length c1_1, .int .i64 a1_2] 28 (0, 0)) (by (with_reducible repeat (first | refine bn ?_ _ | refine bd ?_ | refine ba ?_ _)); exact BK286.out) hb); have n4_ := Am (below_step (by repeat (first | (with_reducible first | exact HB.out | apply bl | apply pN | apply b1 | refine bs ?_ GE285.out | refine bs ?_ GE286.out) | exact HB.out | exact HBo.out)) hb); clear BK285; clear BK286; clear HB; have HO292 := n0_; have HO295 := n1_; have BK285 := n2_; have BK286 := n3_; have HB := n4_; clear n0_ n1_ n2_ n3_ n4_; (try clear hb); (try clear hb2); (try clear hk); (try clear hi); (try clear ho0); (try clear ho1)) | ((with_reducible refine gate_dst (N := 5) rfl ?_); (try (refine gate_guard (by rfl) ?_; dsimp only)); refine box_event ?hg (N := 5) ?hd (cs := #[.slice none 0 0, .slice none 0 0]) (t := 25) ?hr ?_; (case hd => rfl); (case hg => rfl); (case hr => first | (go_simp; done) | (go_simp; rfl)); intro gb297 hg w51 hbox hb; have n0_ := Am (Kd.R_below (by (with_reducible repeat (first | apply Kd.R_alloc | apply Kd.R_drewN | apply Kd.R_drew)); exact HO292.out) hb); have n1_ := Am (Kd.S_below (by (with_reducible repeat (first | apply Kd.S_alloc | apply Kd.S_drewN | apply Kd.S_drew)); exact HO295.out) hb); have n2_ := Am (blk_below (g := gb285) (o := .cells #[.slice A0_0 l0_0.length c0_0, .slice A0_1 l0_1.length c0_1] 25 (0, 0)) (by (with_reducible repeat (first | refine bn ?_ _ | refine bd ?_ | refine ba ?_ _)); exact BK285.out) hb); have n3_ := Am (blk_below (g := gb286) (o := .cells #[.string a1_0, .slice A1_1 l1_1.length c1_1, .int .i64 a1_2] 28 (0, 0)) (by (with_reducible repeat (first | refine bn ?_ _ | refine bd ?_ | refine ba ?_ _)); exact BK286.out) hb); have n4_ := Am (below_step (by repeat (first | (with_reducible first | exact HB.out | apply bl | apply pN | apply b1 | refine bs ?_ GE285.out | refine bs ?_ GE286.out) | exact HB.out | exact HBo.out)) hb); have n5_ := Am (hbox); have n6_ := Am ((by rw [hg]; exact (below_size (by repeat (first | (with_reducible first | exact HB.out | apply bl | apply pN | apply b1 | refine bs ?_ GE285.out | refine bs ?_ GE286.out) | exact HB.out | exact HBo.out))) : w.heap.size ≤ gb297)); have n7_ := Am ((by rw [hg]; exact (below_size (by repeat (first | (with_reducible first | exact HB.out | apply bl | apply pN | apply b1 | refine bs ?_ GE285.out | refine bs ?_ GE286.out) | exact HB.out | exact HBo.out))) : w.heap.size ≤ gb297)); have n8_ := Am ((by rw [hg]; exact Nat.ne_of_lt (blk_lt (g := gb285) (o := .cells #[.slice A0_0 l0_0.length c0_0, .slice A0_1 l0_1.length c0_1] 25 (0, 0)) (by (with_reducible repeat (first | refine bn ?_ _ | refine bd ?_ | refine ba ?_ _)); exact BK285.out)) : gb285 ≠ gb297)); have n9_ := Am ((by rw [hg]; exact Nat.ne_of_gt (blk_lt (g := gb285) (o := .cells #[.slice A0_0 l0_0.length c0_0, .slice A0_1 l0_1.length c0_1] 25 (0, 0)) (by (with_reducible repeat (first | refine bn ?_ _ | refine bd ?_ | refine ba ?_ _)); exact BK285.out)) : gb297 ≠ gb285)); have n10_ := Am ((by rw [hg]; exact Nat.ne_of_lt (blk_lt (g := gb286) (o := .cells #[.string a1_0, .slice A1_1 l1_1.length c1_1, .int .i64 a1_2] 28 (0, 0)) (by (with_reducible repeat (first | refine bn ?_ _ | refine bd ?_ | refine ba ?_ _)); exact BK286.out)) : gb286 ≠ gb297)); have n11_ := Am ((by rw [hg]; exact Nat.ne_of_gt (blk_lt (g := gb286) (o := .cells #[.string a1_0, .slice A1_1 l1_1.length c1_1, .int .i64 a1_2] 28 (0, 0)) (by (with_reducible repeat (first | refine bn ?_ _ | refine bd ?_ | refine ba ?_ _)); exact BK286.out)) : gb297 ≠ gb286)); clear HO292; clear HO295; clear BK285; clear BK286; clear HB; have HO292 := n0_; have HO295 := n1_; have BK285 := n2_; have BK286 := n3_; have HB := n4_; have BK297 := n5_; have GW297 := n6_; have GE297 := n7_; have NB285_297 := n8_; have NB297_285 := n9_; have NB286_297 := n10_; have NB297_286 := n11_; clear n0_ n1_ n2_ n3_ n4_ n5_ n6_ n7_ n8_ n9_ n10_ n11_; clear hb hbox hg; obtain ⟨Ao52, co52, eo52⟩ := Kd.R_slice HO292.out; subst eo52; have hnb53 := NB297_285.out; have hnc53 := NB285_297.out; have hnb54 := NB297_286.out; have hnc54 := NB286_297.out; have hcz55_0 : w51.cell? ⟨gb297, 0, none⟩ = some (.slice none 0 0) := (bc BK297.out 0).trans rfl; have hcz55_1 : w51.cell? ⟨gb297, 1, none⟩ = some (.slice none 0 0) := (bc BK297.out 1).trans rfl; have hfz55_0 := bf BK297.out 0; have hfz55_1 := bf BK297.out 1; obtain ⟨Ao56, co56, eo56⟩ := Kd.S_slice HO295.out; subst eo56) | ((with_reducible refine gate_store (t := 25) (p := 5) rfl ?_); refine store_event (t := 25) (p := 5) (v := ?vo_w57) (w1 := ((w51.setCell ⟨gb297, 0, none⟩ (.slice Ao52 t290.length co52)).setCell ⟨gb297, 1, none⟩ (.slice Ao56 t293.length co56))) ?hg ?ho ?hn ?hr ?_; (case ho => rfl); (case hg => rfl); (case hn => rfl); (case hr => first | (go_simp; done) | (go_simp; rfl)); intro w57 hw; have n0_ : Aside0 (Kd.R Kd.string 9 w57 w.heap.size (fun _ => True) (.slice Ao52 t290.length co52) t290) := ⟨(by rw [hw]; exact (by (with_reducible repeat (first | apply Kd.R_alloc | apply Kd.R_drewN | apply Kd.R_drew)); exact Kd.R_mono (Kd.R_far (p := ⟨gb297, 1, none⟩) (Kd.R_far (p := ⟨gb297, 0, none⟩) (Kd.R_types HO292.out BK297.out (by decide)) (fun _ hk => hk.2) (.slice Ao52 t290.length co52)) (fun _ hk => hk.2) (.slice Ao56 t293.length co56)) (fun _ hk => trivial)))⟩; have n1_ : Aside0 (Kd.S (Kd.slice 50 k50) 46 w57 w.heap.size (fun _ => True) (.slice Ao56 t293.length co56) t293) := ⟨(by rw [hw]; exact (by (with_reducible repeat (first | apply Kd.S_alloc | apply Kd.S_drewN | apply Kd.S_drew)); exact Kd.S_mono (Kd.S_far (p := ⟨gb297, 1, none⟩) (Kd.S_far (p := ⟨gb297, 0, none⟩) (Kd.S_types HO295.out BK297.out (by decide)) (fun _ hk => hk.2) (.slice Ao52 t290.length co52)) (fun _ hk => hk.2) (.slice Ao56 t293.length co56)) (fun _ hk => trivial)))⟩; have n2_ : Aside0 (w57.heap[gb285]? = some (.cells #[.slice A0_0 l0_0.length c0_0, .slice A0_1 l0_1.length c0_1] 25 (0, 0))) := ⟨(by rw [hw]; exact (by (with_reducible repeat (first | refine bn ?_ _ | refine bd ?_ | refine ba ?_ _)); refine blk_far ?_ NB285_297.out _; (with_reducible repeat (first | refine bn ?_ _ | refine bd ?_ | refine ba ?_ _)); refine blk_far ?_ NB285_297.out _; (with_reducible repeat (first | refine bn ?_ _ | refine bd ?_ | refine ba ?_ _)); exact BK285.out))⟩; have n3_ : Aside0 (w57.heap[gb286]? = some (.cells #[.string a1_0, .slice A1_1 l1_1.length c1_1, .int .i64 a1_2] 28 (0, 0))) := ⟨(by rw [hw]; exact (by (with_reducible repeat (first | refine bn ?_ _ | refine bd ?_ | refine ba ?_ _)); refine blk_far ?_ NB286_297.out _; (with_reducible repeat (first | refine bn ?_ _ | refine bd ?_ | refine ba ?_ _)); refine blk_far ?_ NB286_297.out _; (with_reducible repeat (first | refine bn ?_ _ | refine bd ?_ | refine ba ?_ _)); exact BK286.out))⟩; have n4_ : Aside0 (w57.heap[gb297]? = some (.cells #[.slice Ao52 t290.length co52, .slice Ao56 t293.length co56] 25 (0, 0))) := ⟨(by rw [hw]; exact (by (with_reducible repeat (first | refine bn ?_ _ | refine bd ?_ | refine ba ?_ _)); refine blk_put (cs := #[.slice Ao52 t290.length co52, .slice none 0 0]) ?_ 1 _ rfl; (with_reducible repeat (first | refine bn ?_ _ | refine bd ?_ | refine ba ?_ _)); refine blk_put (cs := #[.slice none 0 0, .slice none 0 0]) ?_ 0 _ rfl; (with_reducible repeat (first | refine bn ?_ _ | refine bd ?_ | refine ba ?_ _)); exact BK297.out))⟩; have n5_ : Aside0 (Below w.heap.size w w57) := ⟨(by rw [hw]; exact (by repeat (first | (with_reducible first | exact HB.out | apply bl | apply pN | apply b1 | refine bs ?_ GE285.out | refine bs ?_ GE286.out | refine bs ?_ GE297.out) | exact HB.out | exact HBo.out)))⟩; clear hw; clear HO292; clear HO295; clear BK285; clear BK286; clear BK297; clear HB; have HO292 := n0_; have HO295 := n1_; have BK285 := n2_; have BK286 := n3_; have BK297 := n4_; have HB := n5_; clear n0_ n1_ n2_ n3_ n4_ n5_; have hcz58_0 : w57.cell? ⟨gb285, 0, none⟩ = some (.slice A0_0 l0_0.length c0_0) := (bc BK285.out 0).trans rfl; have hcz58_1 : w57.cell? ⟨gb285, 1, none⟩ = some (.slice A0_1 l0_1.length c0_1) := (bc BK285.out 1).trans rfl; have hfz58_0 := bf BK285.out 0; have hfz58_1 := bf BK285.out 1; have hcz59_0 : w57.cell? ⟨gb286, 0, none⟩ = some (.string a1_0) := (bc BK286.out 0).trans rfl; have hcz59_1 : w57.cell? ⟨gb286, 1, none⟩ = some (.slice A1_1 l1_1.length c1_1) := (bc BK286.out 1).trans rfl; have hcz59_2 : w57.cell? ⟨gb286, 2, none⟩ = some (.int .i64 a1_2) := (bc BK286.out 2).trans rfl; have hfz59_0 := bf BK286.out 0; have hfz59_1 := bf BK286.out 1; have hfz59_2 := bf BK286.out 2) | ((with_reducible refine gate_callee (f := 12) rfl ?_); refine goesL_ (some 48) rfl rfl Try.func12 (by kernel_rfl) rfl #[.agg #[.slice A0_0 l0_0.length c0_0, .slice A0_1 l0_1.length c0_1], .string a1_0] rfl (by (try simp only [List.map_toArray, List.map_cons, List.map_nil]); first | done | rfl | (simp only [List.length_drop, List.length_take]; rfl)) ?_; (with_reducible refine (shuttlecockref06_String.calls kj2 (fun k_ => k_ < w.heap.size) _ _ l0_0 (fun k_ => k_ < w.heap.size) _ _ l0_1 a1_0 t298 t301 t304 _ ?side1 ?side2 A25.out).mono ?_); (case side1 => exact Kd.V_mk HC0_0.out (Kd.F_below (Kd.C_F Kd.heap_string HR0_0.out) (by repeat (first | (with_reducible first | exact HB.out | apply bl | apply pN | apply b1 | refine bs ?_ GE285.out | refine bs ?_ GE286.out | refine bs ?_ GE297.out) | exact HB.out | exact HBo.out)))); (case side2 => exact Kd.V_mk HC0_1.out (Kd.F_below (Kd.C_F (Kd.heap_slice 50 k50_heap) HR0_1.out) (by repeat (first | (with_reducible first | exact HB.out | apply bl | apply pN | apply b1 | refine bs ?_ GE285.out | refine bs ?_ GE286.out | refine bs ?_ GE297.out) | exact HB.out | exact HBo.out)))); rintro e w60 ⟨v299, v302, rfl, ho0, ho1, hb⟩; refine ⟨_, rfl, ?_⟩; have n0_ := Am (Kd.R_below (by (with_reducible repeat (first | apply Kd.R_alloc | apply Kd.R_drewN | apply Kd.R_drew)); exact HO292.out) hb); have n1_ := Am (Kd.S_below (by (with_reducible repeat (first | apply Kd.S_alloc | apply Kd.S_drewN | apply Kd.S_drew)); exact HO295.out) hb); have n2_ := Am (Kd.V_lower (Kd.V_mono (ok' := fun k_ => some k_ ≠ (.slice Ao52 t290.length co52 : Value).ownBlock ∧ some k_ ≠ (.slice Ao56 t293.length co56 : Value).ownBlock ∧ k_ ≠ gb285 ∧ k_ ≠ gb286 ∧ k_ ≠ gb297) ho0 (fun k_ hk_ => ⟨Or.elim hk_ (fun hs_ => Or.elim hs_ (fun hs_ => fun e_ => Nat.not_le.2 hs_ (Kd.R_base HO292.out k_ e_.symm)) (fun hs_ => fun e_ => Nat.not_le.2 hs_ (Kd.R_base HO292.out k_ e_.symm))) (fun hn_ => (Kd.fresh' (Kd.R_lt (by (with_reducible repeat (first | apply Kd.R_alloc | apply Kd.R_drewN | apply Kd.R_drew)); exact HO292.out)) k_ hn_)), Or.elim hk_ (fun hs_ => Or.elim hs_ (fun hs_ => fun e_ => Nat.not_le.2 hs_ (Kd.S_base HO295.out k_ e_.symm)) (fun hs_ => fun e_ => Nat.not_le.2 hs_ (Kd.S_base HO295.out k_ e_.symm))) (fun hn_ => (Kd.fresh' (Kd.S_lt (by (with_reducible repeat (first | apply Kd.S_alloc | apply Kd.S_drewN | apply Kd.S_drew)); exact HO295.out)) k_ hn_)), Or.elim hk_ (fun hs_ => Or.elim hs_ (fun hs_ => fun e_ => Nat.not_le.2 hs_ (by rw [e_]; exact GW285.out)) (fun hs_ => fun e_ => Nat.not_le.2 hs_ (by rw [e_]; exact GW285.out))) (fun hn_ => (Kd.freshB (g := gb285) (o := .cells #[.slice A0_0 l0_0.length c0_0, .slice A0_1 l0_1.length c0_1] 25 (0, 0)) (by (with_reducible repeat (first | refine bn ?_ _ | refine bd ?_ | refine ba ?_ _)); exact BK285.out) k_ hn_)), Or.elim hk_ (fun hs_ => Or.elim hs_ (fun hs_ => fun e_ => Nat.not_le.2 hs_ (by rw [e_]; exact GW286.out)) (fun hs_ => fun e_ => Nat.not_le.2 hs_ (by rw [e_]; exact GW286.out))) (fun hn_ => (Kd.freshB (g := gb286) (o := .cells #[.string a1_0, .slice A1_1 l1_1.length c1_1, .int .i64 a1_2] 28 (0, 0)) (by (with_reducible repeat (first | refine bn ?_ _ | refine bd ?_ | refine ba ?_ _)); exact BK286.out) k_ hn_)), Or.elim hk_ (fun hs_ => Or.elim hs_ (fun hs_ => fun e_ => Nat.not_le.2 hs_ (by rw [e_]; exact GW297.out)) (fun hs_ => fun e_ => Nat.not_le.2 hs_ (by rw [e_]; exact GW297.out))) (fun hn_ => (Kd.freshB (g := gb297) (o := .cells #[.slice Ao52 t290.length co52, .slice Ao56 t293.length co56] 25 (0, 0)) (by (with_reducible repeat (first | refine bn ?_ _ | refine bd ?_ | refine ba ?_ _)); exact BK297.out) k_ hn_))⟩)) (below_size (by repeat (first | (with_reducible first | exact HB.out | apply bl | apply pN | apply b1 | refine bs ?_ GE285.out | refine bs ?_ GE286.out | refine bs ?_ GE297.out) | exact HB.out | exact HBo.out)))); have n3_ := Am (Kd.V_lower (Kd.V_mono (ok' := fun k_ => some k_ ≠ (.slice Ao52 t290.length co52 : Value).ownBlock ∧ some k_ ≠ (.slice Ao56 t293.length co56 : Value).ownBlock ∧ k_ ≠ gb285 ∧ k_ ≠ gb286 ∧ k_ ≠ gb297) ho1 (fun k_ hk_ => ⟨Or.elim hk_ (fun hs_ => Or.elim hs_ (fun hs_ => fun e_ => Nat.not_le.2 hs_ (Kd.R_base HO292.out k_ e_.symm)) (fun hs_ => fun e_ => Nat.not_le.2 hs_ (Kd.R_base HO292.out k_ e_.symm))) (fun hn_ => (Kd.fresh' (Kd.R_lt (by (with_reducible repeat (first | apply Kd.R_alloc | apply Kd.R_drewN | apply Kd.R_drew)); exact HO292.out)) k_ hn_)), Or.elim hk_ (fun hs_ => Or.elim hs_ (fun hs_ => fun e_ => Nat.not_le.2 hs_ (Kd.S_base HO295.out k_ e_.symm)) (fun hs_ => fun e_ => Nat.not_le.2 hs_ (Kd.S_base HO295.out k_ e_.symm))) (fun hn_ => (Kd.fresh' (Kd.S_lt (by (with_reducible repeat (first | apply Kd.S_alloc | apply Kd.S_drewN | apply Kd.S_drew)); exact HO295.out)) k_ hn_)), Or.elim hk_ (fun hs_ => Or.elim hs_ (fun hs_ => fun e_ => Nat.not_le.2 hs_ (by rw [e_]; exact GW285.out)) (fun hs_ => fun e_ => Nat.not_le.2 hs_ (by rw [e_]; exact GW285.out))) (fun hn_ => (Kd.freshB (g := gb285) (o := .cells #[.slice A0_0 l0_0.length c0_0, .slice A0_1 l0_1.length c0_1] 25 (0, 0)) (by (with_reducible repeat (first | refine bn ?_ _ | refine bd ?_ | refine ba ?_ _)); exact BK285.out) k_ hn_)), Or.elim hk_ (fun hs_ => Or.elim hs_ (fun hs_ => fun e_ => Nat.not_le.2 hs_ (by rw [e_]; exact GW286.out)) (fun hs_ => fun e_ => Nat.not_le.2 hs_ (by rw [e_]; exact GW286.out))) (fun hn_ => (Kd.freshB (g := gb286) (o := .cells #[.string a1_0, .slice A1_1 l1_1.length c1_1, .int .i64 a1_2] 28 (0, 0)) (by (with_reducible repeat (first | refine bn ?_ _ | refine bd ?_ | refine ba ?_ _)); exact BK286.out) k_ hn_)), Or.elim hk_ (fun hs_ => Or.elim hs_ (fun hs_ => fun e_ => Nat.not_le.2 hs_ (by rw [e_]; exact GW297.out)) (fun hs_ => fun e_ => Nat.not_le.2 hs_ (by rw [e_]; exact GW297.out))) (fun hn_ => (Kd.freshB (g := gb297) (o := .cells #[.slice Ao52 t290.length co52, .slice Ao56 t293.length co56] 25 (0, 0)) (by (with_reducible repeat (first | refine bn ?_ _ | refine bd ?_ | refine ba ?_ _)); exact BK297.out) k_ hn_))⟩)) (below_size (by repeat (first | (with_reducible first | exact HB.out | apply bl | apply pN | apply b1 | refine bs ?_ GE285.out | refine bs ?_ GE286.out | refine bs ?_ GE297.out) | exact HB.out | exact HBo.out)))); have n4_ := Am (blk_below (g := gb285) (o := .cells #[.slice A0_0 l0_0.length c0_0, .slice A0_1 l0_1.length c0_1] 25 (0, 0)) (by (with_reducible repeat (first | refine bn ?_ _ | refine bd ?_ | refine ba ?_ _)); exact BK285.out) hb); have n5_ := Am (blk_below (g := gb286) (o := .cells #[.string a1_0, .slice A1_1 l1_1.length c1_1, .int .i64 a1_2] 28 (0, 0)) (by (with_reducible repeat (first | refine bn ?_ _ | refine bd ?_ | refine ba ?_ _)); exact BK286.out) hb); have n6_ := Am (blk_below (g := gb297) (o := .cells #[.slice Ao52 t290.length co52, .slice Ao56 t293.length co56] 25 (0, 0)) (by (with_reducible repeat (first | refine bn ?_ _ | refine bd ?_ | refine ba ?_ _)); exact BK297.out) hb); have n7_ := Am (below_step (by repeat (first | (with_reducible first | exact HB.out | apply bl | apply pN | apply b1 | refine bs ?_ GE285.out | refine bs ?_ GE286.out | refine bs ?_ GE297.out) | exact HB.out | exact HBo.out)) hb); clear HO292; clear HO295; clear BK285; clear BK286; clear BK297; clear HB; have HO292 := n0_; have HO295 := n1_; have HO300 := n2_; have HO303 := n3_; have BK285 := n4_; have BK286 := n5_; have BK297 := n6_; have HB := n7_; clear n0_ n1_ n2_ n3_ n4_ n5_ n6_ n7_; (try clear hb); (try clear hb2); (try clear hk); (try clear hi); (try clear ho0); (try clear ho1)) | ((with_reducible refine gate_dst (N := 7) rfl ?_); (try (refine gate_guard (by rfl) ?_; dsimp only)); refine box_event ?hg (N := 7) ?hd (cs := #[.slice none 0 0, .slice none 0 0]) (t := 25) ?hr ?_; (case hd => rfl); (case hg => rfl); (case hr => first | (go_simp; done) | (go_simp; rfl)); intro gb305 hg w61 hbox hb; have n0_ := Am (Kd.R_below (by (with_reducible repeat (first | apply Kd.R_alloc | apply Kd.R_drewN | apply Kd.R_drew)); exact HO292.out) hb); have n1_ := Am (Kd.S_below (by (with_reducible repeat (first | apply Kd.S_alloc | apply Kd.S_drewN | apply Kd.S_drew)); exact HO295.out) hb); have n2_ := Am (Kd.V_below (Kd.V_elderB (by (with_reducible repeat (first | apply Kd.V_alloc | apply Kd.V_drewN | apply Kd.V_drew)); exact HO300.out) gb305 (Nat.le_of_eq hg.symm)) hb); have n3_ := Am (Kd.V_below (Kd.V_elderB (by (with_reducible repeat (first | apply Kd.V_alloc | apply Kd.V_drewN | apply Kd.V_drew)); exact HO303.out) gb305 (Nat.le_of_eq hg.symm)) hb); have n4_ := Am (blk_below (g := gb285) (o := .cells #[.slice A0_0 l0_0.length c0_0, .slice A0_1 l0_1.length c0_1] 25 (0, 0)) (by (with_reducible repeat (first | refine bn ?_ _ | refine bd ?_ | refine ba ?_ _)); exact BK285.out) hb); have n5_ := Am (blk_below (g := gb286) (o := .cells #[.string a1_0, .slice A1_1 l1_1.length c1_1, .int .i64 a1_2] 28 (0, 0)) (by (with_reducible repeat (first | refine bn ?_ _ | refine bd ?_ | refine ba ?_ _)); exact BK286.out) hb); have n6_ := Am (blk_below (g := gb297) (o := .cells #[.slice Ao52 t290.length co52, .slice Ao56 t293.length co56] 25 (0, 0)) (by (with_reducible repeat (first | refine bn ?_ _ | refine bd ?_ | refine ba ?_ _)); exact BK297.out) hb); have n7_ := Am (below_step (by repeat (first | (with_reducible first | exact HB.out | apply bl | apply pN | apply b1 | refine bs ?_ GE285.out | refine bs ?_ GE286.out | refine bs ?_ GE297.out) | exact HB.out | exact HBo.out)) hb); have n8_ := Am (hbox); have n9_ := Am ((by rw [hg]; exact (below_size (by repeat (first | (with_reducible first | exact HB.out | apply bl | apply pN | apply b1 | refine bs ?_ GE285.out | refine bs ?_ GE286.out | refine bs ?_ GE297.out) | exact HB.out | exact HBo.out))) : w.heap.size ≤ gb305)); have n10_ := Am ((by rw [hg]; exact (below_size (by repeat (first | (with_reducible first | exact HB.out | apply bl | apply pN | apply b1 | refine bs ?_ GE285.out | refine bs ?_ GE286.out | refine bs ?_ GE297.out) | exact HB.out | exact HBo.out))) : w.heap.size ≤ gb305)); have n11_ := Am ((by rw [hg]; exact Nat.ne_of_lt (blk_lt (g := gb285) (o := .cells #[.slice A0_0 l0_0.length c0_0, .slice A0_1 l0_1.length c0_1] 25 (0, 0)) (by (with_reducible repeat (first | refine bn ?_ _ | refine bd ?_ | refine ba ?_ _)); exact BK285.out)) : gb285 ≠ gb305)); have n12_ := Am ((by rw [hg]; exact Nat.ne_of_gt (blk_lt (g := gb285) (o := .cells #[.slice A0_0 l0_0.length c0_0, .slice A0_1 l0_1.length c0_1] 25 (0, 0)) (by (with_reducible repeat (first | refine bn ?_ _ | refine bd ?_ | refine ba ?_ _)); exact BK285.out)) : gb305 ≠ gb285)); have n13_ := Am ((by rw [hg]; exact Nat.ne_of_lt (blk_lt (g := gb286) (o := .cells #[.string a1_0, .slice A1_1 l1_1.length c1_1, .int .i64 a1_2] 28 (0, 0)) (by (with_reducible repeat (first | refine bn ?_ _ | refine bd ?_ | refine ba ?_ _)); exact BK286.out)) : gb286 ≠ gb305)); have n14_ := Am ((by rw [hg]; exact Nat.ne_of_gt (blk_lt (g := gb286) (o := .cells #[.string a1_0, .slice A1_1 l1_1.length c1_1, .int .i64 a1_2] 28 (0, 0)) (by (with_reducible repeat (first | refine bn ?_ _ | refine bd ?_ | refine ba ?_ _)); exact BK286.out)) : gb305 ≠ gb286)); have n15_ := Am ((by rw [hg]; exact Nat.ne_of_lt (blk_lt (g := gb297) (o := .cells #[.slice Ao52 t290.length co52, .slice Ao56 t293.length co56] 25 (0, 0)) (by (with_reducible repeat (first | refine bn ?_ _ | refine bd ?_ | refine ba ?_ _)); exact BK297.out)) : gb297 ≠ gb305)); have n16_ := Am ((by rw [hg]; exact Nat.ne_of_gt (blk_lt (g := gb297) (o := .cells #[.slice Ao52 t290.length co52, .slice Ao56 t293.length co56] 25 (0, 0)) (by (with_reducible repeat (first | refine bn ?_ _ | refine bd ?_ | refine ba ?_ _)); exact BK297.out)) : gb305 ≠ gb297)); clear HO292; clear HO295; clear HO300; clear HO303; clear BK285; clear BK286; clear BK297; clear HB; have HO292 := n0_; have HO295 := n1_; have HO300 := n2_; have HO303 := n3_; have BK285 := n4_; have BK286 := n5_; have BK297 := n6_; have HB := n7_; have BK305 := n8_; have GW305 := n9_; have GE305 := n10_; have NB285_305 := n11_; have NB305_285 := n12_; have NB286_305 := n13_; have NB305_286 := n14_; have NB297_305 := n15_; have NB305_297 := n16_; clear n0_ n1_ n2_ n3_ n4_ n5_ n6_ n7_ n8_ n9_ n10_ n11_ n12_ n13_ n14_ n15_ n16_; clear hb hbox hg; obtain ⟨Ao62, co62, eo62⟩ := Kd.V_slice HO300.out; subst eo62; have hnb63 := NB305_285.out; have hnc63 := NB285_305.out; have hnb64 := NB305_286.out; have hnc64 := NB286_305.out; have hnb65 := NB305_297.out; have hnc65 := NB297_305.out; have hcz66_0 : w61.cell? ⟨gb305, 0, none⟩ = some (.slice none 0 0) := (bc BK305.out 0).trans rfl; have hcz66_1 : w61.cell? ⟨gb305, 1, none⟩ = some (.slice none 0 0) := (bc BK305.out 1).trans rfl; have hfz66_0 := bf BK305.out 0; have hfz66_1 := bf BK305.out 1; obtain ⟨Ao67, co67, eo67⟩ := Kd.V_slice HO303.out; subst eo67; have hcz68_0 : w61.cell? ⟨gb285, 0, none⟩ = some (.slice A0_0 l0_0.length c0_0) := (bc BK285.out 0).trans rfl; have hcz68_1 : w61.cell? ⟨gb285, 1, none⟩ = some (.slice A0_1 l0_1.length c0_1) := (bc BK285.out 1).trans rfl; have hfz68_0 := bf BK285.out 0; have hfz68_1 := bf BK285.out 1; have hcz69_0 : w61.cell? ⟨gb286, 0, none⟩ = some (.string a1_0) := (bc BK286.out 0).trans rfl; have hcz69_1 : w61.cell? ⟨gb286, 1, none⟩ = some (.slice A1_1 l1_1.length c1_1) := (bc BK286.out 1).trans rfl; have hcz69_2 : w61.cell? ⟨gb286, 2, none⟩ = some (.int .i64 a1_2) := (bc BK286.out 2).trans rfl; have hfz69_0 := bf BK286.out 0; have hfz69_1 := bf BK286.out 1; have hfz69_2 := bf BK286.out 2) | ((with_reducible refine gate_callee (f := 13) rfl ?_); refine goesL_ (some 55) rfl rfl Try.func13 (by kernel_rfl) rfl #[.agg #[.slice A0_0 l0_0.length c0_0, .slice A0_1 l0_1.length c0_1], .slice A1_1 l1_1.length c1_1] rfl (by (try simp only [List.map_toArray, List.map_cons, List.map_nil]); first | done | rfl | (simp only [List.length_drop, List.length_take]; rfl)) ?_; (with_reducible refine (intern_Stack.calls kj2 _ _ l0_0 _ _ l0_1 _ _ l1_1 t306 t309 t312 _ ?side1 ?side2 ?side3 ?side4 ?side5 ?side6 A26.out).mono ?_); (case side1 => exact Kd.C_below HR0_0.out (by repeat (first | (with_reducible first | exact HB.out | apply bl | apply pN | apply b1 | refine bs ?_ GE285.out | refine bs ?_ GE286.out | refine bs ?_ GE297.out | refine bs ?_ GE305.out) | exact HB.out | exact HBo.out))); (case side2 => exact HC0_0.out); (case side3 => exact Kd.C_below HR0_1.out (by repeat (first | (with_reducible first | exact HB.out | apply bl | apply pN | apply b1 | refine bs ?_ GE285.out | refine bs ?_ GE286.out | refine bs ?_ GE297.out | refine bs ?_ GE305.out) | exact HB.out | exact HBo.out))); (case side4 => exact HC0_1.out); (case side5 => exact Kd.C_below HR1_1.out (by repeat (first | (with_reducible first | exact HB.out | apply bl | apply pN | apply b1 | refine bs ?_ GE285.out | refine bs ?_ GE286.out | refine bs ?_ GE297.out | refine bs ?_ GE305.out) | exact HB.out | exact HBo.out))); (case side6 => exact HC1_1.out); rintro e w70 ⟨v307, v310, rfl, ho0, ho1, hb⟩; refine ⟨_, rfl, ?_⟩; have n0_ := Am (Kd.R_elder' (by (with_reducible repeat (first | apply Kd.R_alloc | apply Kd.R_drewN | apply Kd.R_drew)); exact (Kd.R_mono (Kd.R_far (p := ⟨gb305, 1, none⟩) (Kd.R_far (p := ⟨gb305, 0, none⟩) (Kd.R_types HO292.out BK305.out (by decide)) (fun _ hk => hk.2) (.slice Ao62 t298.length co62)) (fun _ hk => hk.2) (.slice Ao67 t301.length co67)) (fun _ h_ => h_.1))) (Kd.R_base ho0) hb); have n1_ := Am (Kd.S_elder' (by (with_reducible repeat (first | apply Kd.S_alloc | apply Kd.S_drewN | apply Kd.S_drew)); exact (Kd.S_mono (Kd.S_far (p := ⟨gb305, 1, none⟩) (Kd.S_far (p := ⟨gb305, 0, none⟩) (Kd.S_types HO295.out BK305.out (by decide)) (fun _ hk => hk.2) (.slice Ao62 t298.length co62)) (fun _ hk => hk.2) (.slice Ao67 t301.length co67)) (fun _ h_ => h_.1))) (Kd.S_base ho1) hb); have n2_ := Am (Kd.V_mono (Kd.V_told (Kd.V_told (Kd.V_old (by (with_reducible repeat (first | apply Kd.V_alloc | apply Kd.V_drewN | apply Kd.V_drew)); exact (Kd.V_mono (Kd.V_far (p := ⟨gb305, 1, none⟩) (Kd.V_far (p := ⟨gb305, 0, none⟩) (Kd.V_mono HO300.out (fun k_ hk => (⟨hk, hk.2⟩ : _ ∧ k_ ≠ gb305))) (fun _ hk => hk.2) (.slice Ao62 t298.length co62)) (fun _ hk => hk.2) (.slice Ao67 t301.length co67)) (fun _ h_ => h_.1))) hb) (Kd.R_base ho0)) (Kd.S_base ho1)) (fun _ h_ => h_.1)); have n3_ := Am (Kd.V_mono (Kd.V_told (Kd.V_told (Kd.V_old (by (with_reducible repeat (first | apply Kd.V_alloc | apply Kd.V_drewN | apply Kd.V_drew)); exact (Kd.V_mono (Kd.V_far (p := ⟨gb305, 1, none⟩) (Kd.V_far (p := ⟨gb305, 0, none⟩) (Kd.V_mono HO303.out (fun k_ hk => (⟨hk, hk.2⟩ : _ ∧ k_ ≠ gb305))) (fun _ hk => hk.2) (.slice Ao62 t298.length co62)) (fun _ hk => hk.2) (.slice Ao67 t301.length co67)) (fun _ h_ => h_.1))) hb) (Kd.R_base ho0)) (Kd.S_base ho1)) (fun _ h_ => h_.1)); have n4_ := Am (Kd.R_lower (Kd.R_new' ho0 (Kd.R_lt (by (with_reducible repeat (first | apply Kd.R_alloc | apply Kd.R_drewN | apply Kd.R_drew)); exact (Kd.R_mono (Kd.R_far (p := ⟨gb305, 1, none⟩) (Kd.R_far (p := ⟨gb305, 0, none⟩) (Kd.R_types HO292.out BK305.out (by decide)) (fun _ hk => hk.2) (.slice Ao62 t298.length co62)) (fun _ hk => hk.2) (.slice Ao67 t301.length co67)) (fun _ h_ => h_.1))))) (below_size (by repeat (first | (with_reducible first | exact HB.out | apply bl | apply pN | apply b1 | refine bs ?_ GE285.out | refine bs ?_ GE286.out | refine bs ?_ GE297.out | refine bs ?_ GE305.out) | exact HB.out | exact HBo.out)))); have n5_ := Am (Kd.S_lower (Kd.S_new' ho1 (Kd.S_lt (by (with_reducible repeat (first | apply Kd.S_alloc | apply Kd.S_drewN | apply Kd.S_drew)); exact (Kd.S_mono (Kd.S_far (p := ⟨gb305, 1, none⟩) (Kd.S_far (p := ⟨gb305, 0, none⟩) (Kd.S_types HO295.out BK305.out (by decide)) (fun _ hk => hk.2) (.slice Ao62 t298.length co62)) (fun _ hk => hk.2) (.slice Ao67 t301.length co67)) (fun _ h_ => h_.1))))) (below_size (by repeat (first | (with_reducible first | exact HB.out | apply bl | apply pN | apply b1 | refine bs ?_ GE285.out | refine bs ?_ GE286.out | refine bs ?_ GE297.out | refine bs ?_ GE305.out) | exact HB.out | exact HBo.out)))); have n6_ := Am (blk_below (g := gb285) (o := .cells #[.slice A0_0 l0_0.length c0_0, .slice A0_1 l0_1.length c0_1] 25 (0, 0)) (by (with_reducible repeat (first | refine bn ?_ _ | refine bd ?_ | refine ba ?_ _)); refine blk_far ?_ NB285_305.out _; (with_reducible repeat (first | refine bn ?_ _ | refine bd ?_ | refine ba ?_ _)); refine blk_far ?_ NB285_305.out _; (with_reducible repeat (first | refine bn ?_ _ | refine bd ?_ | refine ba ?_ _)); exact BK285.out) hb); have n7_ := Am (blk_below (g := gb286) (o := .cells #[.string a1_0, .slice A1_1 l1_1.length c1_1, .int .i64 a1_2] 28 (0, 0)) (by (with_reducible repeat (first | refine bn ?_ _ | refine bd ?_ | refine ba ?_ _)); refine blk_far ?_ NB286_305.out _; (with_reducible repeat (first | refine bn ?_ _ | refine bd ?_ | refine ba ?_ _)); refine blk_far ?_ NB286_305.out _; (with_reducible repeat (first | refine bn ?_ _ | refine bd ?_ | refine ba ?_ _)); exact BK286.out) hb); have n8_ := Am (blk_below (g := gb297) (o := .cells #[.slice Ao52 t290.length co52, .slice Ao56 t293.length co56] 25 (0, 0)) (by (with_reducible repeat (first | refine bn ?_ _ | refine bd ?_ | refine ba ?_ _)); refine blk_far ?_ NB297_305.out _; (with_reducible repeat (first | refine bn ?_ _ | refine bd ?_ | refine ba ?_ _)); refine blk_far ?_ NB297_305.out _; (with_reducible repeat (first | refine bn ?_ _ | refine bd ?_ | refine ba ?_ _)); exact BK297.out) hb); have n9_ := Am (blk_below (g := gb305) (o := .cells #[.slice Ao62 t298.length co62, .slice Ao67 t301.length co67] 25 (0, 0)) (by (with_reducible repeat (first | refine bn ?_ _ | refine bd ?_ | refine ba ?_ _)); refine blk_put (cs := #[.slice Ao62 t298.length co62, .slice none 0 0]) ?_ 1 _ rfl; (with_reducible repeat (first | refine bn ?_ _ | refine bd ?_ | refine ba ?_ _)); refine blk_put (cs := #[.slice none 0 0, .slice none 0 0]) ?_ 0 _ rfl; (with_reducible repeat (first | refine bn ?_ _ | refine bd ?_ | refine ba ?_ _)); exact BK305.out) hb); have n10_ := Am (below_step (by repeat (first | (with_reducible first | exact HB.out | apply bl | apply pN | apply b1 | refine bs ?_ GE285.out | refine bs ?_ GE286.out | refine bs ?_ GE297.out | refine bs ?_ GE305.out) | exact HB.out | exact HBo.out)) hb); clear HO292; clear HO295; clear HO300; clear HO303; clear BK285; clear BK286; clear BK297; clear BK305; clear HB; have HO292 := n0_; have HO295 := n1_; have HO300 := n2_; have HO303 := n3_; have HO308 := n4_; have HO311 := n5_; have BK285 := n6_; have BK286 := n7_; have BK297 := n8_; have BK305 := n9_; have HB := n10_; clear n0_ n1_ n2_ n3_ n4_ n5_ n6_ n7_ n8_ n9_ n10_; (try clear hb); (try clear hb2); (try clear hk); (try clear hi); (try clear ho0); (try clear ho1)) | ((with_reducible refine gate_dst (N := 9) rfl ?_); (try (refine gate_guard (by rfl) ?_; dsimp only)); refine box_event ?hg (N := 9) ?hd (cs := #[.slice none 0 0, .slice none 0 0]) (t := 25) ?hr ?_; (case hd => rfl); (case hg => rfl); (case hr => first | (go_simp; done) | (go_simp; rfl)); intro gb313 hg w71 hbox hb; have n0_ := Am (Kd.R_below (by (with_reducible repeat (first | apply Kd.R_alloc | apply Kd.R_drewN | apply Kd.R_drew)); exact HO292.out) hb); have n1_ := Am (Kd.S_below (by (with_reducible repeat (first | apply Kd.S_alloc | apply Kd.S_drewN | apply Kd.S_drew)); exact HO295.out) hb); have n2_ := Am (Kd.V_below (Kd.V_elderB (by (with_reducible repeat (first | apply Kd.V_alloc | apply Kd.V_drewN | apply Kd.V_drew)); exact HO300.out) gb313 (Nat.le_of_eq hg.symm)) hb); have n3_ := Am (Kd.V_below (Kd.V_elderB (by (with_reducible repeat (first | apply Kd.V_alloc | apply Kd.V_drewN | apply Kd.V_drew)); exact HO303.out) gb313 (Nat.le_of_eq hg.symm)) hb); have n4_ := Am (Kd.R_below (by (with_reducible repeat (first | apply Kd.R_alloc | apply Kd.R_drewN | apply Kd.R_drew)); exact HO308.out) hb); have n5_ := Am (Kd.S_below (by (with_reducible repeat (first | apply Kd.S_alloc | apply Kd.S_drewN | apply Kd.S_drew)); exact HO311.out) hb); have n6_ := Am (blk_below (g := gb285) (o := .cells #[.slice A0_0 l0_0.length c0_0, .slice A0_1 l0_1.length c0_1] 25 (0, 0)) (by (with_reducible repeat (first | refine bn ?_ _ | refine bd ?_ | refine ba ?_ _)); exact BK285.out) hb); have n7_ := Am (blk_below (g := gb286) (o := .cells #[.string a1_0, .slice A1_1 l1_1.length c1_1, .int .i64 a1_2] 28 (0, 0)) (by (with_reducible repeat (first | refine bn ?_ _ | refine bd ?_ | refine ba ?_ _)); exact BK286.out) hb); have n8_ := Am (blk_below (g := gb297) (o := .cells #[.slice Ao52 t290.length co52, .slice Ao56 t293.length co56] 25 (0, 0)) (by (with_reducible repeat (first | refine bn ?_ _ | refine bd ?_ | refine ba ?_ _)); exact BK297.out) hb); have n9_ := Am (blk_below (g := gb305) (o := .cells #[.slice Ao62 t298.length co62, .slice Ao67 t301.length co67] 25 (0, 0)) (by (with_reducible repeat (first | refine bn ?_ _ | refine bd ?_ | refine ba ?_ _)); exact BK305.out) hb); have n10_ := Am (below_step (by repeat (first | (with_reducible first | exact HB.out | apply bl | apply pN | apply b1 | refine bs ?_ GE285.out | refine bs ?_ GE286.out | refine bs ?_ GE297.out | refine bs ?_ GE305.out) | exact HB.out | exact HBo.out)) hb); have n11_ := Am (hbox); have n12_ := Am ((by rw [hg]; exact (below_size (by repeat (first | (with_reducible first | exact HB.out | apply bl | apply pN | apply b1 | refine bs ?_ GE285.out | refine bs ?_ GE286.out | refine bs ?_ GE297.out | refine bs ?_ GE305.out) | exact HB.out | exact HBo.out))) : w.heap.size ≤ gb313)); have n13_ := Am ((by rw [hg]; exact (below_size (by repeat (first | (with_reducible first | exact HB.out | apply bl | apply pN | apply b1 | refine bs ?_ GE285.out | refine bs ?_ GE286.out | refine bs ?_ GE297.out | refine bs ?_ GE305.out) | exact HB.out | exact HBo.out))) : w.heap.size ≤ gb313)); have n14_ := Am ((by rw [hg]; exact Nat.ne_of_lt (blk_lt (g := gb285) (o := .cells #[.slice A0_0 l0_0.length c0_0, .slice A0_1 l0_1.length c0_1] 25 (0, 0)) (by (with_reducible repeat (first | refine bn ?_ _ | refine bd ?_ | refine ba ?_ _)); exact BK285.out)) : gb285 ≠ gb313)); have n15_ := Am ((by rw [hg]; exact Nat.ne_of_gt (blk_lt (g := gb285) (o := .cells #[.slice A0_0 l0_0.length c0_0, .slice A0_1 l0_1.length c0_1] 25 (0, 0)) (by (with_reducible repeat (first | refine bn ?_ _ | refine bd ?_ | refine ba ?_ _)); exact BK285.out)) : gb313 ≠ gb285)); have n16_ := Am ((by rw [hg]; exact Nat.ne_of_lt (blk_lt (g := gb286) (o := .cells #[.string a1_0, .slice A1_1 l1_1.length c1_1, .int .i64 a1_2] 28 (0, 0)) (by (with_reducible repeat (first | refine bn ?_ _ | refine bd ?_ | refine ba ?_ _)); exact BK286.out)) : gb286 ≠ gb313)); have n17_ := Am ((by rw [hg]; exact Nat.ne_of_gt (blk_lt (g := gb286) (o := .cells #[.string a1_0, .slice A1_1 l1_1.length c1_1, .int .i64 a1_2] 28 (0, 0)) (by (with_reducible repeat (first | refine bn ?_ _ | refine bd ?_ | refine ba ?_ _)); exact BK286.out)) : gb313 ≠ gb286)); have n18_ := Am ((by rw [hg]; exact Nat.ne_of_lt (blk_lt (g := gb297) (o := .cells #[.slice Ao52 t290.length co52, .slice Ao56 t293.length co56] 25 (0, 0)) (by (with_reducible repeat (first | refine bn ?_ _ | refine bd ?_ | refine ba ?_ _)); exact BK297.out)) : gb297 ≠ gb313)); have n19_ := Am ((by rw [hg]; exact Nat.ne_of_gt (blk_lt (g := gb297) (o := .cells #[.slice Ao52 t290.length co52, .slice Ao56 t293.length co56] 25 (0, 0)) (by (with_reducible repeat (first | refine bn ?_ _ | refine bd ?_ | refine ba ?_ _)); exact BK297.out)) : gb313 ≠ gb297)); have n20_ := Am ((by rw [hg]; exact Nat.ne_of_lt (blk_lt (g := gb305) (o := .cells #[.slice Ao62 t298.length co62, .slice Ao67 t301.length co67] 25 (0, 0)) (by (with_reducible repeat (first | refine bn ?_ _ | refine bd ?_ | refine ba ?_ _)); exact BK305.out)) : gb305 ≠ gb313)); have n21_ := Am ((by rw [hg]; exact Nat.ne_of_gt (blk_lt (g := gb305) (o := .cells #[.slice Ao62 t298.length co62, .slice Ao67 t301.length co67] 25 (0, 0)) (by (with_reducible repeat (first | refine bn ?_ _ | refine bd ?_ | refine ba ?_ _)); exact BK305.out)) : gb313 ≠ gb305)); clear HO292; clear HO295; clear HO300; clear HO303; clear HO308; clear HO311; clear BK285; clear BK286; clear BK297; clear BK305; clear HB; have HO292 := n0_; have HO295 := n1_; have HO300 := n2_; have HO303 := n3_; have HO308 := n4_; have HO311 := n5_; have BK285 := n6_; have BK286 := n7_; have BK297 := n8_; have BK305 := n9_; have HB := n10_; have BK313 := n11_; have GW313 := n12_; have GE313 := n13_; have NB285_313 := n14_; have NB313_285 := n15_; have NB286_313 := n16_; have NB313_286 := n17_; have NB297_313 := n18_; have NB313_297 := n19_; have NB305_313 := n20_; have NB313_305 := n21_; clear n0_ n1_ n2_ n3_ n4_ n5_ n6_ n7_ n8_ n9_ n10_ n11_ n12_ n13_ n14_ n15_ n16_ n17_ n18_ n19_ n20_ n21_; clear hb hbox hg; obtain ⟨Ao72, co72, eo72⟩ := Kd.R_slice HO308.out; subst eo72; have hnb73 := NB313_285.out; have hnc73 := NB285_313.out; have hnb74 := NB313_286.out; have hnc74 := NB286_313.out; have hnb75 := NB313_297.out; have hnc75 := NB297_313.out; have hnb76 := NB313_305.out; have hnc76 := NB305_313.out; have hcz77_0 : w71.cell? ⟨gb313, 0, none⟩ = some (.slice none 0 0) := (bc BK313.out 0).trans rfl; have hcz77_1 : w71.cell? ⟨gb313, 1, none⟩ = some (.slice none 0 0) := (bc BK313.out 1).trans rfl; have hfz77_0 := bf BK313.out 0; have hfz77_1 := bf BK313.out 1; obtain ⟨Ao78, co78, eo78⟩ := Kd.S_slice HO311.out; subst eo78) | ((with_reducible refine gate_store (t := 25) (p := 9) rfl ?_); refine store_event (t := 25) (p := 9) (v := ?vo_w79) (w1 := ((w71.setCell ⟨gb313, 0, none⟩ (.slice Ao72 t306.length co72)).setCell ⟨gb313, 1, none⟩ (.slice Ao78 t309.length co78))) ?hg ?ho ?hn ?hr ?_; (case ho => rfl); (case hg => rfl); (case hn => rfl); (case hr => first | (go_simp; done) | (go_simp; rfl)); intro w79 hw; have n0_ : Aside0 (Kd.R Kd.string 9 w79 w.heap.size (fun k_ => some k_ ≠ (.slice Ao72 t306.length co72 : Value).ownBlock) (.slice Ao52 t290.length co52) t290) := ⟨(by rw [hw]; exact (by (with_reducible repeat (first | apply Kd.R_alloc | apply Kd.R_drewN | apply Kd.R_drew)); exact Kd.R_mono (Kd.R_far (p := ⟨gb313, 1, none⟩) (Kd.R_far (p := ⟨gb313, 0, none⟩) (Kd.R_types HO292.out BK313.out (by decide)) (fun _ hk => hk.2) (.slice Ao72 t306.length co72)) (fun _ hk => hk.2) (.slice Ao78 t309.length co78)) (fun _ hk => hk.1.2)))⟩; have n1_ : Aside0 (Kd.S (Kd.slice 50 k50) 46 w79 w.heap.size (fun k_ => some k_ ≠ (.slice Ao78 t309.length co78 : Value).ownBlock) (.slice Ao56 t293.length co56) t293) := ⟨(by rw [hw]; exact (by (with_reducible repeat (first | apply Kd.S_alloc | apply Kd.S_drewN | apply Kd.S_drew)); exact Kd.S_mono (Kd.S_far (p := ⟨gb313, 1, none⟩) (Kd.S_far (p := ⟨gb313, 0, none⟩) (Kd.S_types HO295.out BK313.out (by decide)) (fun _ hk => hk.2) (.slice Ao72 t306.length co72)) (fun _ hk => hk.2) (.slice Ao78 t309.length co78)) (fun _ hk => hk.1.2)))⟩; have n2_ : Aside0 (Kd.V Kd.string 9 w79 w.heap.size (fun k_ => some k_ ≠ (.slice Ao52 t290.length co52 : Value).ownBlock ∧ some k_ ≠ (.slice Ao56 t293.length co56 : Value).ownBlock ∧ some k_ ≠ (.slice Ao72 t306.length co72 : Value).ownBlock ∧ some k_ ≠ (.slice Ao78 t309.length co78 : Value).ownBlock ∧ k_ ≠ gb285 ∧ k_ ≠ gb286 ∧ k_ ≠ gb297 ∧ k_ ≠ gb305 ∧ k_ ≠ gb313) (.slice Ao62 t298.length co62) t298) := ⟨(by rw [hw]; exact (by (with_reducible repeat (first | apply Kd.V_alloc | apply Kd.V_drewN | apply Kd.V_drew)); exact Kd.V_mono (Kd.V_far (p := ⟨gb313, 1, none⟩) (Kd.V_far (p := ⟨gb313, 0, none⟩) (Kd.V_mono HO300.out (fun k_ hk => (⟨hk, hk.2⟩ : _ ∧ k_ ≠ gb313))) (fun _ hk => hk.2) (.slice Ao72 t306.length co72)) (fun _ hk => hk.2) (.slice Ao78 t309.length co78)) (fun _ hk => ⟨hk.1.1.1.1.1.1, ⟨hk.1.1.1.1.1.2.1, ⟨hk.1.1.1.2, ⟨hk.1.1.2, ⟨hk.1.1.1.1.1.2.2.1, ⟨hk.1.1.1.1.1.2.2.2.1, ⟨hk.1.1.1.1.1.2.2.2.2, ⟨hk.1.1.1.1.2, hk.1.2⟩⟩⟩⟩⟩⟩⟩⟩)))⟩; have n3_ : Aside0 (Kd.V (Kd.slice 50 k50) 46 w79 w.heap.size (fun k_ => some k_ ≠ (.slice Ao52 t290.length co52 : Value).ownBlock ∧ some k_ ≠ (.slice Ao56 t293.length co56 : Value).ownBlock ∧ some k_ ≠ (.slice Ao72 t306.length co72 : Value).ownBlock ∧ some k_ ≠ (.slice Ao78 t309.length co78 : Value).ownBlock ∧ k_ ≠ gb285 ∧ k_ ≠ gb286 ∧ k_ ≠ gb297 ∧ k_ ≠ gb305 ∧ k_ ≠ gb313) (.slice Ao67 t301.length co67) t301) := ⟨(by rw [hw]; exact (by (with_reducible repeat (first | apply Kd.V_alloc | apply Kd.V_drewN | apply Kd.V_drew)); exact Kd.V_mono (Kd.V_far (p := ⟨gb313, 1, none⟩) (Kd.V_far (p := ⟨gb313, 0, none⟩) (Kd.V_mono HO303.out (fun k_ hk => (⟨hk, hk.2⟩ : _ ∧ k_ ≠ gb313))) (fun _ hk => hk.2) (.slice Ao72 t306.length co72)) (fun _ hk => hk.2) (.slice Ao78 t309.length co78)) (fun _ hk => ⟨hk.1.1.1.1.1.1, ⟨hk.1.1.1.1.1.2.1, ⟨hk.1.1.1.2, ⟨hk.1.1.2, ⟨hk.1.1.1.1.1.2.2.1, ⟨hk.1.1.1.1.1.2.2.2.1, ⟨hk.1.1.1.1.1.2.2.2.2, ⟨hk.1.1.1.1.2, hk.1.2⟩⟩⟩⟩⟩⟩⟩⟩)))⟩; have n4_ : Aside0 (Kd.R Kd.string 9 w79 w.heap.size (fun k_ => some k_ ≠ (.slice Ao52 t290.length co52 : Value).ownBlock) (.slice Ao72 t306.length co72) t306) := ⟨(by rw [hw]; exact (by (with_reducible repeat (first | apply Kd.R_alloc | apply Kd.R_drewN | apply Kd.R_drew)); exact Kd.R_mono (Kd.R_far (p := ⟨gb313, 1, none⟩) (Kd.R_far (p := ⟨gb313, 0, none⟩) (Kd.R_types HO308.out BK313.out (by decide)) (fun _ hk => hk.2) (.slice Ao72 t306.length co72)) (fun _ hk => hk.2) (.slice Ao78 t309.length co78)) (fun _ hk => hk.1.2)))⟩; have n5_ : Aside0 (Kd.S (Kd.slice 50 k50) 46 w79 w.heap.size (fun k_ => some k_ ≠ (.slice Ao56 t293.length co56 : Value).ownBlock) (.slice Ao78 t309.length co78) t309) := ⟨(by rw [hw]; exact (by (with_reducible repeat (first | apply Kd.S_alloc | apply Kd.S_drewN | apply Kd.S_drew)); exact Kd.S_mono (Kd.S_far (p := ⟨gb313, 1, none⟩) (Kd.S_far (p := ⟨gb313, 0, none⟩) (Kd.S_types HO311.out BK313.out (by decide)) (fun _ hk => hk.2) (.slice Ao72 t306.length co72)) (fun _ hk => hk.2) (.slice Ao78 t309.length co78)) (fun _ hk => hk.1.2)))⟩; have n6_ : Aside0 (w79.heap[gb285]? = some (.cells #[.slice A0_0 l0_0.length c0_0, .slice A0_1 l0_1.length c0_1] 25 (0, 0))) := ⟨(by rw [hw]; exact (by (with_reducible repeat (first | refine bn ?_ _ | refine bd ?_ | refine ba ?_ _)); refine blk_far ?_ NB285_313.out _; (with_reducible repeat (first | refine bn ?_ _ | refine bd ?_ | refine ba ?_ _)); refine blk_far ?_ NB285_313.out _; (with_reducible repeat (first | refine bn ?_ _ | refine bd ?_ | refine ba ?_ _)); exact BK285.out))⟩; have n7_ : Aside0 (w79.heap[gb286]? = some (.cells #[.string a1_0, .slice A1_1 l1_1.length c1_1, .int .i64 a1_2] 28 (0, 0))) := ⟨(by rw [hw]; exact (by (with_reducible repeat (first | refine bn ?_ _ | refine bd ?_ | refine ba ?_ _)); refine blk_far ?_ NB286_313.out _; (with_reducible repeat (first | refine bn ?_ _ | refine bd ?_ | refine ba ?_ _)); refine blk_far ?_ NB286_313.out _; (with_reducible repeat (first | refine bn ?_ _ | refine bd ?_ | refine ba ?_ _)); exact BK286.out))⟩; have n8_ : Aside0 (w79.heap[gb297]? = some (.cells #[.slice Ao52 t290.length co52, .slice Ao56 t293.length co56] 25 (0, 0))) := ⟨(by rw [hw]; exact (by (with_reducible repeat (first | refine bn ?_ _ | refine bd ?_ | refine ba ?_ _)); refine blk_far ?_ NB297_313.out _; (with_reducible repeat (first | refine bn ?_ _ | refine bd ?_ | refine ba ?_ _)); refine blk_far ?_ NB297_313.out _; (with_reducible repeat (first | refine bn ?_ _ | refine bd ?_ | refine ba ?_ _)); exact BK297.out))⟩; have n9_ : Aside0 (w79.heap[gb305]? = some (.cells #[.slice Ao62 t298.length co62, .slice Ao67 t301.length co67] 25 (0, 0))) := ⟨(by rw [hw]; exact (by (with_reducible repeat (first | refine bn ?_ _ | refine bd ?_ | refine ba ?_ _)); refine blk_far ?_ NB305_313.out _; (with_reducible repeat (first | refine bn ?_ _ | refine bd ?_ | refine ba ?_ _)); refine blk_far ?_ NB305_313.out _; (with_reducible repeat (first | refine bn ?_ _ | refine bd ?_ | refine ba ?_ _)); exact BK305.out))⟩; have n10_ : Aside0 (w79.heap[gb313]? = some (.cells #[.slice Ao72 t306.length co72, .slice Ao78 t309.length co78] 25 (0, 0))) := ⟨(by rw [hw]; exact (by (with_reducible repeat (first | refine bn ?_ _ | refine bd ?_ | refine ba ?_ _)); refine blk_put (cs := #[.slice Ao72 t306.length co72, .slice none 0 0]) ?_ 1 _ rfl; (with_reducible repeat (first | refine bn ?_ _ | refine bd ?_ | refine ba ?_ _)); refine blk_put (cs := #[.slice none 0 0, .slice none 0 0]) ?_ 0 _ rfl; (with_reducible repeat (first | refine bn ?_ _ | refine bd ?_ | refine ba ?_ _)); exact BK313.out))⟩; have n11_ : Aside0 (Below w.heap.size w w79) := ⟨(by rw [hw]; exact (by repeat (first | (with_reducible first | exact HB.out | apply bl | apply pN | apply b1 | refine bs ?_ GE285.out | refine bs ?_ GE286.out | refine bs ?_ GE297.out | refine bs ?_ GE305.out | refine bs ?_ GE313.out) | exact HB.out | exact HBo.out)))⟩; clear hw; clear HO292; clear HO295; clear HO300; clear HO303; clear HO308; clear HO311; clear BK285; clear BK286; clear BK297; clear BK305; clear BK313; clear HB; have HO292 := n0_; have HO295 := n1_; have HO300 := n2_; have HO303 := n3_; have HO308 := n4_; have HO311 := n5_; have BK285 := n6_; have BK286 := n7_; have BK297 := n8_; have BK305 := n9_; have BK313 := n10_; have HB := n11_; clear n0_ n1_ n2_ n3_ n4_ n5_ n6_ n7_ n8_ n9_ n10_ n11_; have hcz80_0 : w79.cell? ⟨gb285, 0, none⟩ = some (.slice A0_0 l0_0.length c0_0) := (bc BK285.out 0).trans rfl; have hcz80_1 : w79.cell? ⟨gb285, 1, none⟩ = some (.slice A0_1 l0_1.length c0_1) := (bc BK285.out 1).trans rfl; have hfz80_0 := bf BK285.out 0; have hfz80_1 := bf BK285.out 1; have hcz81_0 : w79.cell? ⟨gb286, 0, none⟩ = some (.string a1_0) := (bc BK286.out 0).trans rfl; have hcz81_1 : w79.cell? ⟨gb286, 1, none⟩ = some (.slice A1_1 l1_1.length c1_1) := (bc BK286.out 1).trans rfl; have hcz81_2 : w79.cell? ⟨gb286, 2, none⟩ = some (.int .i64 a1_2) := (bc BK286.out 2).trans rfl; have hfz81_0 := bf BK286.out 0; have hfz81_1 := bf BK286.out 1; have hfz81_2 := bf BK286.out 2) | ((with_reducible refine gate_callee (f := 14) rfl ?_); refine goesL_ (some 62) rfl rfl Try.func14 (by kernel_rfl) rfl #[.agg #[.slice A0_0 l0_0.length c0_0, .slice A0_1 l0_1.length c0_1], .slice A1_1 l1_1.length c1_1] rfl (by (try simp only [List.map_toArray, List.map_cons, List.map_nil]); first | done | rfl | (simp only [List.length_drop, List.length_take]; rfl)) ?_; (with_reducible refine (shuttlecockref06_Stack.calls kj2 (fun k_ => k_ < w.heap.size) _ _ l0_0 (fun k_ => k_ < w.heap.size) _ _ l0_1 _ _ l1_1 t314 t317 t320 _ ?side1 ?side2 ?side3 ?side4 A27.out).mono ?_); (case side1 => exact Kd.V_mk HC0_0.out (Kd.F_below (Kd.C_F Kd.heap_string HR0_0.out) (by repeat (first | (with_reducible first | exact HB.out | apply bl | apply pN | apply b1 | refine bs ?_ GE285.out | refine bs ?_ GE286.out | refine bs ?_ GE297.out | refine bs ?_ GE305.out | refine bs ?_ GE313.out) | exact HB.out | exact HBo.out)))); (case side2 => exact Kd.V_mk HC0_1.out (Kd.F_below (Kd.C_F (Kd.heap_slice 50 k50_heap) HR0_1.out) (by repeat (first | (with_reducible first | exact HB.out | apply bl | apply pN | apply b1 | refine bs ?_ GE285.out | refine bs ?_ GE286.out | refine bs ?_ GE297.out | refine bs ?_ GE305.out | refine bs ?_ GE313.out) | exact HB.out | exact HBo.out)))); (case side3 => repeat (first | exact (Kd.C_below HR1_1.out HB.out) | (with_reducible refine Kd.C_alloc ?_ _) | (with_reducible refine Kd.C_drewN ?_ _) | (with_reducible refine Kd.C_drew ?_))); (case side4 => exact HC1_1.out); rintro e w82 ⟨v315, v318, rfl, ho0, ho1, hb⟩; refine ⟨_, rfl, ?_⟩; have n0_ := Am (Kd.R_below (by (with_reducible repeat (first | apply Kd.R_alloc | apply Kd.R_drewN | apply Kd.R_drew)); exact HO292.out) hb); have n1_ := Am (Kd.S_below (by (with_reducible repeat (first | apply Kd.S_alloc | apply Kd.S_drewN | apply Kd.S_drew)); exact HO295.out) hb); have n2_ := Am (Kd.V_below (by (with_reducible repeat (first | apply Kd.V_alloc | apply Kd.V_drewN | apply Kd.V_drew)); exact HO300.out) hb); have n3_ := Am (Kd.V_below (by (with_reducible repeat (first | apply Kd.V_alloc | apply Kd.V_drewN | apply Kd.V_drew)); exact HO303.out) hb); have n4_ := Am (Kd.R_below (by (with_reducible repeat (first | apply Kd.R_alloc | apply Kd.R_drewN | apply Kd.R_drew)); exact HO308.out) hb); have n5_ := Am (Kd.S_below (by (with_reducible repeat (first | apply Kd.S_alloc | apply Kd.S_drewN | apply Kd.S_drew)); exact HO311.out) hb); have n6_ := Am (Kd.V_lower (Kd.V_mono (ok' := fun k_ => some k_ ≠ (.slice Ao52 t290.length co52 : Value).ownBlock ∧ some k_ ≠ (.slice Ao56 t293.length co56 : Value).ownBlock ∧ some k_ ≠ (.slice Ao72 t306.length co72 : Value).ownBlock ∧ some k_ ≠ (.slice Ao78 t309.length co78 : Value).ownBlock ∧ k_ ≠ gb285 ∧ k_ ≠ gb286 ∧ k_ ≠ gb297 ∧ k_ ≠ gb305 ∧ k_ ≠ gb313) ho0 (fun k_ hk_ => ⟨Or.elim hk_ (fun hs_ => Or.elim hs_ (fun hs_ => fun e_ => Nat.not_le.2 hs_ (Kd.R_base HO292.out k_ e_.symm)) (fun hs_ => fun e_ => Nat.not_le.2 hs_ (Kd.R_base HO292.out k_ e_.symm))) (fun hn_ => (Kd.fresh' (Kd.R_lt (by (with_reducible repeat (first | apply Kd.R_alloc | apply Kd.R_drewN | apply Kd.R_drew)); exact HO292.out)) k_ hn_)), Or.elim hk_ (fun hs_ => Or.elim hs_ (fun hs_ => fun e_ => Nat.not_le.2 hs_ (Kd.S_base HO295.out k_ e_.symm)) (fun hs_ => fun e_ => Nat.not_le.2 hs_ (Kd.S_base HO295.out k_ e_.symm))) (fun hn_ => (Kd.fresh' (Kd.S_lt (by (with_reducible repeat (first | apply Kd.S_alloc | apply Kd.S_drewN | apply Kd.S_drew)); exact HO295.out)) k_ hn_)), Or.elim hk_ (fun hs_ => Or.elim hs_ (fun hs_ => fun e_ => Nat.not_le.2 hs_ (Kd.R_base HO308.out k_ e_.symm)) (fun hs_ => fun e_ => Nat.not_le.2 hs_ (Kd.R_base HO308.out k_ e_.symm))) (fun hn_ => (Kd.fresh' (Kd.R_lt (by (with_reducible repeat (first | apply Kd.R_alloc | apply Kd.R_drewN | apply Kd.R_drew)); exact HO308.out)) k_ hn_)), Or.elim hk_ (fun hs_ => Or.elim hs_ (fun hs_ => fun e_ => Nat.not_le.2 hs_ (Kd.S_base HO311.out k_ e_.symm)) (fun hs_ => fun e_ => Nat.not_le.2 hs_ (Kd.S_base HO311.out k_ e_.symm))) (fun hn_ => (Kd.fresh' (Kd.S_lt (by (with_reducible repeat (first | apply Kd.S_alloc | apply Kd.S_drewN | apply Kd.S_drew)); exact HO311.out)) k_ hn_)), Or.elim hk_ (fun hs_ => Or.elim hs_ (fun hs_ => fun e_ => Nat.not_le.2 hs_ (by rw [e_]; exact GW285.out)) (fun hs_ => fun e_ => Nat.not_le.2 hs_ (by rw [e_]; exact GW285.out))) (fun hn_ => (Kd.freshB (g := gb285) (o := .cells #[.slice A0_0 l0_0.length c0_0, .slice A0_1 l0_1.length c0_1] 25 (0, 0)) (by (with_reducible repeat (first | refine bn ?_ _ | refine bd ?_ | refine ba ?_ _)); exact BK285.out) k_ hn_)), Or.elim hk_ (fun hs_ => Or.elim hs_ (fun hs_ => fun e_ => Nat.not_le.2 hs_ (by rw [e_]; exact GW286.out)) (fun hs_ => fun e_ => Nat.not_le.2 hs_ (by rw [e_]; exact GW286.out))) (fun hn_ => (Kd.freshB (g := gb286) (o := .cells #[.string a1_0, .slice A1_1 l1_1.length c1_1, .int .i64 a1_2] 28 (0, 0)) (by (with_reducible repeat (first | refine bn ?_ _ | refine bd ?_ | refine ba ?_ _)); exact BK286.out) k_ hn_)), Or.elim hk_ (fun hs_ => Or.elim hs_ (fun hs_ => fun e_ => Nat.not_le.2 hs_ (by rw [e_]; exact GW297.out)) (fun hs_ => fun e_ => Nat.not_le.2 hs_ (by rw [e_]; exact GW297.out))) (fun hn_ => (Kd.freshB (g := gb297) (o := .cells #[.slice Ao52 t290.length co52, .slice Ao56 t293.length co56] 25 (0, 0)) (by (with_reducible repeat (first | refine bn ?_ _ | refine bd ?_ | refine ba ?_ _)); exact BK297.out) k_ hn_)), Or.elim hk_ (fun hs_ => Or.elim hs_ (fun hs_ => fun e_ => Nat.not_le.2 hs_ (by rw [e_]; exact GW305.out)) (fun hs_ => fun e_ => Nat.not_le.2 hs_ (by rw [e_]; exact GW305.out))) (fun hn_ => (Kd.freshB (g := gb305) (o := .cells #[.slice Ao62 t298.length co62, .slice Ao67 t301.length co67] 25 (0, 0)) (by (with_reducible repeat (first | refine bn ?_ _ | refine bd ?_ | refine ba ?_ _)); exact BK305.out) k_ hn_)), Or.elim hk_ (fun hs_ => Or.elim hs_ (fun hs_ => fun e_ => Nat.not_le.2 hs_ (by rw [e_]; exact GW313.out)) (fun hs_ => fun e_ => Nat.not_le.2 hs_ (by rw [e_]; exact GW313.out))) (fun hn_ => (Kd.freshB (g := gb313) (o := .cells #[.slice Ao72 t306.length co72, .slice Ao78 t309.length co78] 25 (0, 0)) (by (with_reducible repeat (first | refine bn ?_ _ | refine bd ?_ | refine ba ?_ _)); exact BK313.out) k_ hn_))⟩)) (below_size (by repeat (first | (with_reducible first | exact HB.out | apply bl | apply pN | apply b1 | refine bs ?_ GE285.out | refine bs ?_ GE286.out | refine bs ?_ GE297.out | refine bs ?_ GE305.out | refine bs ?_ GE313.out) | exact HB.out | exact HBo.out)))); have n7_ := Am (Kd.V_lower (Kd.V_mono (ok' := fun k_ => some k_ ≠ (.slice Ao52 t290.length co52 : Value).ownBlock ∧ some k_ ≠ (.slice Ao56 t293.length co56 : Value).ownBlock ∧ some k_ ≠ (.slice Ao72 t306.length co72 : Value).ownBlock ∧ some k_ ≠ (.slice Ao78 t309.length co78 : Value).ownBlock ∧ k_ ≠ gb285 ∧ k_ ≠ gb286 ∧ k_ ≠ gb297 ∧ k_ ≠ gb305 ∧ k_ ≠ gb313) ho1 (fun k_ hk_ => ⟨Or.elim hk_ (fun hs_ => Or.elim hs_ (fun hs_ => fun e_ => Nat.not_le.2 hs_ (Kd.R_base HO292.out k_ e_.symm)) (fun hs_ => fun e_ => Nat.not_le.2 hs_ (Kd.R_base HO292.out k_ e_.symm))) (fun hn_ => (Kd.fresh' (Kd.R_lt (by (with_reducible repeat (first | apply Kd.R_alloc | apply Kd.R_drewN | apply Kd.R_drew)); exact HO292.out)) k_ hn_)), Or.elim hk_ (fun hs_ => Or.elim hs_ (fun hs_ => fun e_ => Nat.not_le.2 hs_ (Kd.S_base HO295.out k_ e_.symm)) (fun hs_ => fun e_ => Nat.not_le.2 hs_ (Kd.S_base HO295.out k_ e_.symm))) (fun hn_ => (Kd.fresh' (Kd.S_lt (by (with_reducible repeat (first | apply Kd.S_alloc | apply Kd.S_drewN | apply Kd.S_drew)); exact HO295.out)) k_ hn_)), Or.elim hk_ (fun hs_ => Or.elim hs_ (fun hs_ => fun e_ => Nat.not_le.2 hs_ (Kd.R_base HO308.out k_ e_.symm)) (fun hs_ => fun e_ => Nat.not_le.2 hs_ (Kd.R_base HO308.out k_ e_.symm))) (fun hn_ => (Kd.fresh' (Kd.R_lt (by (with_reducible repeat (first | apply Kd.R_alloc | apply Kd.R_drewN | apply Kd.R_drew)); exact HO308.out)) k_ hn_)), Or.elim hk_ (fun hs_ => Or.elim hs_ (fun hs_ => fun e_ => Nat.not_le.2 hs_ (Kd.S_base HO311.out k_ e_.symm)) (fun hs_ => fun e_ => Nat.not_le.2 hs_ (Kd.S_base HO311.out k_ e_.symm))) (fun hn_ => (Kd.fresh' (Kd.S_lt (by (with_reducible repeat (first | apply Kd.S_alloc | apply Kd.S_drewN | apply Kd.S_drew)); exact HO311.out)) k_ hn_)), Or.elim hk_ (fun hs_ => Or.elim hs_ (fun hs_ => fun e_ => Nat.not_le.2 hs_ (by rw [e_]; exact GW285.out)) (fun hs_ => fun e_ => Nat.not_le.2 hs_ (by rw [e_]; exact GW285.out))) (fun hn_ => (Kd.freshB (g := gb285) (o := .cells #[.slice A0_0 l0_0.length c0_0, .slice A0_1 l0_1.length c0_1] 25 (0, 0)) (by (with_reducible repeat (first | refine bn ?_ _ | refine bd ?_ | refine ba ?_ _)); exact BK285.out) k_ hn_)), Or.elim hk_ (fun hs_ => Or.elim hs_ (fun hs_ => fun e_ => Nat.not_le.2 hs_ (by rw [e_]; exact GW286.out)) (fun hs_ => fun e_ => Nat.not_le.2 hs_ (by rw [e_]; exact GW286.out))) (fun hn_ => (Kd.freshB (g := gb286) (o := .cells #[.string a1_0, .slice A1_1 l1_1.length c1_1, .int .i64 a1_2] 28 (0, 0)) (by (with_reducible repeat (first | refine bn ?_ _ | refine bd ?_ | refine ba ?_ _)); exact BK286.out) k_ hn_)), Or.elim hk_ (fun hs_ => Or.elim hs_ (fun hs_ => fun e_ => Nat.not_le.2 hs_ (by rw [e_]; exact GW297.out)) (fun hs_ => fun e_ => Nat.not_le.2 hs_ (by rw [e_]; exact GW297.out))) (fun hn_ => (Kd.freshB (g := gb297) (o := .cells #[.slice Ao52 t290.length co52, .slice Ao56 t293.length co56] 25 (0, 0)) (by (with_reducible repeat (first | refine bn ?_ _ | refine bd ?_ | refine ba ?_ _)); exact BK297.out) k_ hn_)), Or.elim hk_ (fun hs_ => Or.elim hs_ (fun hs_ => fun e_ => Nat.not_le.2 hs_ (by rw [e_]; exact GW305.out)) (fun hs_ => fun e_ => Nat.not_le.2 hs_ (by rw [e_]; exact GW305.out))) (fun hn_ => (Kd.freshB (g := gb305) (o := .cells #[.slice Ao62 t298.length co62, .slice Ao67 t301.length co67] 25 (0, 0)) (by (with_reducible repeat (first | refine bn ?_ _ | refine bd ?_ | refine ba ?_ _)); exact BK305.out) k_ hn_)), Or.elim hk_ (fun hs_ => Or.elim hs_ (fun hs_ => fun e_ => Nat.not_le.2 hs_ (by rw [e_]; exact GW313.out)) (fun hs_ => fun e_ => Nat.not_le.2 hs_ (by rw [e_]; exact GW313.out))) (fun hn_ => (Kd.freshB (g := gb313) (o := .cells #[.slice Ao72 t306.length co72, .slice Ao78 t309.length co78] 25 (0, 0)) (by (with_reducible repeat (first | refine bn ?_ _ | refine bd ?_ | refine ba ?_ _)); exact BK313.out) k_ hn_))⟩)) (below_size (by repeat (first | (with_reducible first | exact HB.out | apply bl | apply pN | apply b1 | refine bs ?_ GE285.out | refine bs ?_ GE286.out | refine bs ?_ GE297.out | refine bs ?_ GE305.out | refine bs ?_ GE313.out) | exact HB.out | exact HBo.out)))); have n8_ := Am (blk_below (g := gb285) (o := .cells #[.slice A0_0 l0_0.length c0_0, .slice A0_1 l0_1.length c0_1] 25 (0, 0)) (by (with_reducible repeat (first | refine bn ?_ _ | refine bd ?_ | refine ba ?_ _)); exact BK285.out) hb); have n9_ := Am (blk_below (g := gb286) (o := .cells #[.string a1_0, .slice A1_1 l1_1.length c1_1, .int .i64 a1_2] 28 (0, 0)) (by (with_reducible repeat (first | refine bn ?_ _ | refine bd ?_ | refine ba ?_ _)); exact BK286.out) hb); have n10_ := Am (blk_below (g := gb297) (o := .cells #[.slice Ao52 t290.length co52, .slice Ao56 t293.length co56] 25 (0, 0)) (by (with_reducible repeat (first | refine bn ?_ _ | refine bd ?_ | refine ba ?_ _)); exact BK297.out) hb); have n11_ := Am (blk_below (g := gb305) (o := .cells #[.slice Ao62 t298.length co62, .slice Ao67 t301.length co67] 25 (0, 0)) (by (with_reducible repeat (first | refine bn ?_ _ | refine bd ?_ | refine ba ?_ _)); exact BK305.out) hb); have n12_ := Am (blk_below (g := gb313) (o := .cells #[.slice Ao72 t306.length co72, .slice Ao78 t309.length co78] 25 (0, 0)) (by (with_reducible repeat (first | refine bn ?_ _ | refine bd ?_ | refine ba ?_ _)); exact BK313.out) hb); have n13_ := Am (below_step (by repeat (first | (with_reducible first | exact HB.out | apply bl | apply pN | apply b1 | refine bs ?_ GE285.out | refine bs ?_ GE286.out | refine bs ?_ GE297.out | refine bs ?_ GE305.out | refine bs ?_ GE313.out) | exact HB.out | exact HBo.out)) hb); clear HO292; clear HO295; clear HO300; clear HO303; clear HO308; clear HO311; clear BK285; clear BK286; clear BK297; clear BK305; clear BK313; clear HB; have HO292 := n0_; have HO295 := n1_; have HO300 := n2_; have HO303 := n3_; have HO308 := n4_; have HO311 := n5_; have HO316 := n6_; have HO319 := n7_; have BK285 := n8_; have BK286 := n9_; have BK297 := n10_; have BK305 := n11_; have BK313 := n12_; have HB := n13_; clear n0_ n1_ n2_ n3_ n4_ n5_ n6_ n7_ n8_ n9_ n10_ n11_ n12_ n13_; (try clear hb); (try clear hb2); (try clear hk); (try clear hi); (try clear ho0); (try clear ho1)) | ((with_reducible refine gate_dst (N := 11) rfl ?_); (try (refine gate_guard (by rfl) ?_; dsimp only)); refine box_event ?hg (N := 11) ?hd (cs := #[.slice none 0 0, .slice none 0 0]) (t := 25) ?hr ?_; (case hd => rfl); (case hg => rfl); (case hr => first | (go_simp; done) | (go_simp; rfl)); intro gb321 hg w83 hbox hb; have n0_ := Am (Kd.R_below (by (with_reducible repeat (first | apply Kd.R_alloc | apply Kd.R_drewN | apply Kd.R_drew)); exact HO292.out) hb); have n1_ := Am (Kd.S_below (by (with_reducible repeat (first | apply Kd.S_alloc | apply Kd.S_drewN | apply Kd.S_drew)); exact HO295.out) hb); have n2_ := Am (Kd.V_below (Kd.V_elderB (by (with_reducible repeat (first | apply Kd.V_alloc | apply Kd.V_drewN | apply Kd.V_drew)); exact HO300.out) gb321 (Nat.le_of_eq hg.symm)) hb); have n3_ := Am (Kd.V_below (Kd.V_elderB (by (with_reducible repeat (first | apply Kd.V_alloc | apply Kd.V_drewN | apply Kd.V_drew)); exact HO303.out) gb321 (Nat.le_of_eq hg.symm)) hb); have n4_ := Am (Kd.R_below (by (with_reducible repeat (first | apply Kd.R_alloc | apply Kd.R_drewN | apply Kd.R_drew)); exact HO308.out) hb); have n5_ := Am (Kd.S_below (by (with_reducible repeat (first | apply Kd.S_alloc | apply Kd.S_drewN | apply Kd.S_drew)); exact HO311.out) hb); have n6_ := Am (Kd.V_below (Kd.V_elderB (by (with_reducible repeat (first | apply Kd.V_alloc | apply Kd.V_drewN | apply Kd.V_drew)); exact HO316.out) gb321 (Nat.le_of_eq hg.symm)) hb); have n7_ := Am (Kd.V_below (Kd.V_elderB (by (with_reducible repeat (first | apply Kd.V_alloc | apply Kd.V_drewN | apply Kd.V_drew)); exact HO319.out) gb321 (Nat.le_of_eq hg.symm)) hb); have n8_ := Am (blk_below (g := gb285) (o := .cells #[.slice A0_0 l0_0.length c0_0, .slice A0_1 l0_1.length c0_1] 25 (0, 0)) (by (with_reducible repeat (first | refine bn ?_ _ | refine bd ?_ | refine ba ?_ _)); exact BK285.out) hb); have n9_ := Am (blk_below (g := gb286) (o := .cells #[.string a1_0, .slice A1_1 l1_1.length c1_1, .int .i64 a1_2] 28 (0, 0)) (by (with_reducible repeat (first | refine bn ?_ _ | refine bd ?_ | refine ba ?_ _)); exact BK286.out) hb); have n10_ := Am (blk_below (g := gb297) (o := .cells #[.slice Ao52 t290.length co52, .slice Ao56 t293.length co56] 25 (0, 0)) (by (with_reducible repeat (first | refine bn ?_ _ | refine bd ?_ | refine ba ?_ _)); exact BK297.out) hb); have n11_ := Am (blk_below (g := gb305) (o := .cells #[.slice Ao62 t298.length co62, .slice Ao67 t301.length co67] 25 (0, 0)) (by (with_reducible repeat (first | refine bn ?_ _ | refine bd ?_ | refine ba ?_ _)); exact BK305.out) hb); have n12_ := Am (blk_below (g := gb313) (o := .cells #[.slice Ao72 t306.length co72, .slice Ao78 t309.length co78] 25 (0, 0)) (by (with_reducible repeat (first | refine bn ?_ _ | refine bd ?_ | refine ba ?_ _)); exact BK313.out) hb); have n13_ := Am (below_step (by repeat (first | (with_reducible first | exact HB.out | apply bl | apply pN | apply b1 | refine bs ?_ GE285.out | refine bs ?_ GE286.out | refine bs ?_ GE297.out | refine bs ?_ GE305.out | refine bs ?_ GE313.out) | exact HB.out | exact HBo.out)) hb); have n14_ := Am (hbox); have n15_ := Am ((by rw [hg]; exact (below_size (by repeat (first | (with_reducible first | exact HB.out | apply bl | apply pN | apply b1 | refine bs ?_ GE285.out | refine bs ?_ GE286.out | refine bs ?_ GE297.out | refine bs ?_ GE305.out | refine bs ?_ GE313.out) | exact HB.out | exact HBo.out))) : w.heap.size ≤ gb321)); have n16_ := Am ((by rw [hg]; exact (below_size (by repeat (first | (with_reducible first | exact HB.out | apply bl | apply pN | apply b1 | refine bs ?_ GE285.out | refine bs ?_ GE286.out | refine bs ?_ GE297.out | refine bs ?_ GE305.out | refine bs ?_ GE313.out) | exact HB.out | exact HBo.out))) : w.heap.size ≤ gb321)); have n17_ := Am ((by rw [hg]; exact Nat.ne_of_lt (blk_lt (g := gb285) (o := .cells #[.slice A0_0 l0_0.length c0_0, .slice A0_1 l0_1.length c0_1] 25 (0, 0)) (by (with_reducible repeat (first | refine bn ?_ _ | refine bd ?_ | refine ba ?_ _)); exact BK285.out)) : gb285 ≠ gb321)); have n18_ := Am ((by rw [hg]; exact Nat.ne_of_gt (blk_lt (g := gb285) (o := .cells #[.slice A0_0 l0_0.length c0_0, .slice A0_1 l0_1.length c0_1] 25 (0, 0)) (by (with_reducible repeat (first | refine bn ?_ _ | refine bd ?_ | refine ba ?_ _)); exact BK285.out)) : gb321 ≠ gb285)); have n19_ := Am ((by rw [hg]; exact Nat.ne_of_lt (blk_lt (g := gb286) (o := .cells #[.string a1_0, .slice A1_1 l1_1.length c1_1, .int .i64 a1_2] 28 (0, 0)) (by (with_reducible repeat (first | refine bn ?_ _ | refine bd ?_ | refine ba ?_ _)); exact BK286.out)) : gb286 ≠ gb321)); have n20_ := Am ((by rw [hg]; exact Nat.ne_of_gt (blk_lt (g := gb286) (o := .cells #[.string a1_0, .slice A1_1 l1_1.length c1_1, .int .i64 a1_2] 28 (0, 0)) (by (with_reducible repeat (first | refine bn ?_ _ | refine bd ?_ | refine ba ?_ _)); exact BK286.out)) : gb321 ≠ gb286)); have n21_ := Am ((by rw [hg]; exact Nat.ne_of_lt (blk_lt (g := gb297) (o := .cells #[.slice Ao52 t290.length co52, .slice Ao56 t293.length co56] 25 (0, 0)) (by (with_reducible repeat (first | refine bn ?_ _ | refine bd ?_ | refine ba ?_ _)); exact BK297.out)) : gb297 ≠ gb321)); have n22_ := Am ((by rw [hg]; exact Nat.ne_of_gt (blk_lt (g := gb297) (o := .cells #[.slice Ao52 t290.length co52, .slice Ao56 t293.length co56] 25 (0, 0)) (by (with_reducible repeat (first | refine bn ?_ _ | refine bd ?_ | refine ba ?_ _)); exact BK297.out)) : gb321 ≠ gb297)); have n23_ := Am ((by rw [hg]; exact Nat.ne_of_lt (blk_lt (g := gb305) (o := .cells #[.slice Ao62 t298.length co62, .slice Ao67 t301.length co67] 25 (0, 0)) (by (with_reducible repeat (first | refine bn ?_ _ | refine bd ?_ | refine ba ?_ _)); exact BK305.out)) : gb305 ≠ gb321)); have n24_ := Am ((by rw [hg]; exact Nat.ne_of_gt (blk_lt (g := gb305) (o := .cells #[.slice Ao62 t298.length co62, .slice Ao67 t301.length co67] 25 (0, 0)) (by (with_reducible repeat (first | refine bn ?_ _ | refine bd ?_ | refine ba ?_ _)); exact BK305.out)) : gb321 ≠ gb305)); have n25_ := Am ((by rw [hg]; exact Nat.ne_of_lt (blk_lt (g := gb313) (o := .cells #[.slice Ao72 t306.length co72, .slice Ao78 t309.length co78] 25 (0, 0)) (by (with_reducible repeat (first | refine bn ?_ _ | refine bd ?_ | refine ba ?_ _)); exact BK313.out)) : gb313 ≠ gb321)); have n26_ := Am ((by rw [hg]; exact Nat.ne_of_gt (blk_lt (g := gb313) (o := .cells #[.slice Ao72 t306.length co72, .slice Ao78 t309.length co78] 25 (0, 0)) (by (with_reducible repeat (first | refine bn ?_ _ | refine bd ?_ | refine ba ?_ _)); exact BK313.out)) : gb321 ≠ gb313)); clear HO292; clear HO295; clear HO300; clear HO303; clear HO308; clear HO311; clear HO316; clear HO319; clear BK285; clear BK286; clear BK297; clear BK305; clear BK313; clear HB; have HO292 := n0_; have HO295 := n1_; have HO300 := n2_; have HO303 := n3_; have HO308 := n4_; have HO311 := n5_; have HO316 := n6_; have HO319 := n7_; have BK285 := n8_; have BK286 := n9_; have BK297 := n10_; have BK305 := n11_; have BK313 := n12_; have HB := n13_; have BK321 := n14_; have GW321 := n15_; have GE321 := n16_; have NB285_321 := n17_; have NB321_285 := n18_; have NB286_321 := n19_; have NB321_286 := n20_; have NB297_321 := n21_; have NB321_297 := n22_; have NB305_321 := n23_; have NB321_305 := n24_; have NB313_321 := n25_; have NB321_313 := n26_; clear n0_ n1_ n2_ n3_ n4_ n5_ n6_ n7_ n8_ n9_ n10_ n11_ n12_ n13_ n14_ n15_ n16_ n17_ n18_ n19_ n20_ n21_ n22_ n23_ n24_ n25_ n26_; clear hb hbox hg; obtain ⟨Ao84, co84, eo84⟩ := Kd.V_slice HO316.out; subst eo84; have hnb85 := NB321_285.out; have hnc85 := NB285_321.out; have hnb86 := NB321_286.out; have hnc86 := NB286_321.out; have hnb87 := NB321_297.out; have hnc87 := NB297_321.out; have hnb88 := NB321_305.out; have hnc88 := NB305_321.out; have hnb89 := NB321_313.out; have hnc89 := NB313_321.out; have hcz90_0 : w83.cell? ⟨gb321, 0, none⟩ = some (.slice none 0 0) := (bc BK321.out 0).trans rfl; have hcz90_1 : w83.cell? ⟨gb321, 1, none⟩ = some (.slice none 0 0) := (bc BK321.out 1).trans rfl; have hfz90_0 := bf BK321.out 0; have hfz90_1 := bf BK321.out 1; obtain ⟨Ao91, co91, eo91⟩ := Kd.V_slice HO319.out; subst eo91; have hcz92_0 : w83.cell? ⟨gb285, 0, none⟩ = some (.slice A0_0 l0_0.length c0_0) := (bc BK285.out 0).trans rfl; have hcz92_1 : w83.cell? ⟨gb285, 1, none⟩ = some (.slice A0_1 l0_1.length c0_1) := (bc BK285.out 1).trans rfl; have hfz92_0 := bf BK285.out 0; have hfz92_1 := bf BK285.out 1; have hcz93_0 : w83.cell? ⟨gb286, 0, none⟩ = some (.string a1_0) := (bc BK286.out 0).trans rfl; have hcz93_1 : w83.cell? ⟨gb286, 1, none⟩ = some (.slice A1_1 l1_1.length c1_1) := (bc BK286.out 1).trans rfl; have hcz93_2 : w83.cell? ⟨gb286, 2, none⟩ = some (.int .i64 a1_2) := (bc BK286.out 2).trans rfl; have hfz93_0 := bf BK286.out 0; have hfz93_1 := bf BK286.out 1; have hfz93_2 := bf BK286.out 2) | ((with_reducible refine gate_callee (f := 15) rfl ?_); refine goesL_ (some 69) rfl rfl Try.func15 (by kernel_rfl) rfl #[.agg #[.slice A0_0 l0_0.length c0_0, .slice A0_1 l0_1.length c0_1], .int .i64 a1_2] rfl (by (try simp only [List.map_toArray, List.map_cons, List.map_nil]); first | done | rfl | (simp only [List.length_drop, List.length_take]; rfl)) ?_; (with_reducible refine (intern_Name.calls kj2 _ _ l0_0 _ _ l0_1 a1_2 t322 t323 _ ?side1 ?side2 ?side3 ?side4 A28.out).mono ?_); (case side1 => exact Kd.C_below HR0_0.out (by repeat (first | (with_reducible first | exact HB.out | apply bl | apply pN | apply b1 | refine bs ?_ GE285.out | refine bs ?_ GE286.out | refine bs ?_ GE297.out | refine bs ?_ GE305.out | refine bs ?_ GE313.out | refine bs ?_ GE321.out) | exact HB.out | exact HBo.out))); (case side2 => exact HC0_0.out); (case side3 => exact Kd.C_below HR0_1.out (by repeat (first | (with_reducible first | exact HB.out | apply bl | apply pN | apply b1 | refine bs ?_ GE285.out | refine bs ?_ GE286.out | refine bs ?_ GE297.out | refine bs ?_ GE305.out | refine bs ?_ GE313.out | refine bs ?_ GE321.out) | exact HB.out | exact HBo.out))); (case side4 => exact HC0_1.out); rintro e w94 ⟨rfl, hb⟩; refine ⟨_, rfl, ?_⟩; have n0_ := Am (Kd.R_below (by (with_reducible repeat (first | apply Kd.R_alloc | apply Kd.R_drewN | apply Kd.R_drew)); exact (Kd.R_mono (Kd.R_far (p := ⟨gb321, 1, none⟩) (Kd.R_far (p := ⟨gb321, 0, none⟩) (Kd.R_types HO292.out BK321.out (by decide)) (fun _ hk => hk.2) (.slice Ao84 t314.length co84)) (fun _ hk => hk.2) (.slice Ao91 t317.length co91)) (fun _ h_ => h_.1))) hb); have n1_ := Am (Kd.S_below (by (with_reducible repeat (first | apply Kd.S_alloc | apply Kd.S_drewN | apply Kd.S_drew)); exact (Kd.S_mono (Kd.S_far (p := ⟨gb321, 1, none⟩) (Kd.S_far (p := ⟨gb321, 0, none⟩) (Kd.S_types HO295.out BK321.out (by decide)) (fun _ hk => hk.2) (.slice Ao84 t314.length co84)) (fun _ hk => hk.2) (.slice Ao91 t317.length co91)) (fun _ h_ => h_.1))) hb); have n2_ := Am (Kd.V_below (by (with_reducible repeat (first | apply Kd.V_alloc | apply Kd.V_drewN | apply Kd.V_drew)); exact (Kd.V_mono (Kd.V_far (p := ⟨gb321, 1, none⟩) (Kd.V_far (p := ⟨gb321, 0, none⟩) (Kd.V_mono HO300.out (fun k_ hk => (⟨hk, hk.2⟩ : _ ∧ k_ ≠ gb321))) (fun _ hk => hk.2) (.slice Ao84 t314.length co84)) (fun _ hk => hk.2) (.slice Ao91 t317.length co91)) (fun _ h_ => h_.1))) hb); have n3_ := Am (Kd.V_below (by (with_reducible repeat (first | apply Kd.V_alloc | apply Kd.V_drewN | apply Kd.V_drew)); exact (Kd.V_mono (Kd.V_far (p := ⟨gb321, 1, none⟩) (Kd.V_far (p := ⟨gb321, 0, none⟩) (Kd.V_mono HO303.out (fun k_ hk => (⟨hk, hk.2⟩ : _ ∧ k_ ≠ gb321))) (fun _ hk => hk.2) (.slice Ao84 t314.length co84)) (fun _ hk => hk.2) (.slice Ao91 t317.length co91)) (fun _ h_ => h_.1))) hb); have n4_ := Am (Kd.R_below (by (with_reducible repeat (first | apply Kd.R_alloc | apply Kd.R_drewN | apply Kd.R_drew)); exact (Kd.R_mono (Kd.R_far (p := ⟨gb321, 1, none⟩) (Kd.R_far (p := ⟨gb321, 0, none⟩) (Kd.R_types HO308.out BK321.out (by decide)) (fun _ hk => hk.2) (.slice Ao84 t314.length co84)) (fun _ hk => hk.2) (.slice Ao91 t317.length co91)) (fun _ h_ => h_.1))) hb); have n5_ := Am (Kd.S_below (by (with_reducible repeat (first | apply Kd.S_alloc | apply Kd.S_drewN | apply Kd.S_drew)); exact (Kd.S_mono (Kd.S_far (p := ⟨gb321, 1, none⟩) (Kd.S_far (p := ⟨gb321, 0, none⟩) (Kd.S_types HO311.out BK321.out (by decide)) (fun _ hk => hk.2) (.slice Ao84 t314.length co84)) (fun _ hk => hk.2) (.slice Ao91 t317.length co91)) (fun _ h_ => h_.1))) hb); have n6_ := Am (Kd.V_below (by (with_reducible repeat (first | apply Kd.V_alloc | apply Kd.V_drewN | apply Kd.V_drew)); exact (Kd.V_mono (Kd.V_far (p := ⟨gb321, 1, none⟩) (Kd.V_far (p := ⟨gb321, 0, none⟩) (Kd.V_mono HO316.out (fun k_ hk => (⟨hk, hk.2⟩ : _ ∧ k_ ≠ gb321))) (fun _ hk => hk.2) (.slice Ao84 t314.length co84)) (fun _ hk => hk.2) (.slice Ao91 t317.length co91)) (fun _ h_ => h_.1))) hb); have n7_ := Am (Kd.V_below (by (with_reducible repeat (first | apply Kd.V_alloc | apply Kd.V_drewN | apply Kd.V_drew)); exact (Kd.V_mono (Kd.V_far (p := ⟨gb321, 1, none⟩) (Kd.V_far (p := ⟨gb321, 0, none⟩) (Kd.V_mono HO319.out (fun k_ hk => (⟨hk, hk.2⟩ : _ ∧ k_ ≠ gb321))) (fun _ hk => hk.2) (.slice Ao84 t314.length co84)) (fun _ hk => hk.2) (.slice Ao91 t317.length co91)) (fun _ h_ => h_.1))) hb); have n8_ := Am (blk_below (g := gb285) (o := .cells #[.slice A0_0 l0_0.length c0_0, .slice A0_1 l0_1.length c0_1] 25 (0, 0)) (by (with_reducible repeat (first | refine bn ?_ _ | refine bd ?_ | refine ba ?_ _)); refine blk_far ?_ NB285_321.out _; (with_reducible repeat (first | refine bn ?_ _ | refine bd ?_ | refine ba ?_ _)); refine blk_far ?_ NB285_321.out _; (with_reducible repeat (first | refine bn ?_ _ | refine bd ?_ | refine ba ?_ _)); exact BK285.out) hb); have n9_ := Am (blk_below (g := gb286) (o := .cells #[.string a1_0, .slice A1_1 l1_1.length c1_1, .int .i64 a1_2] 28 (0, 0)) (by (with_reducible repeat (first | refine bn ?_ _ | refine bd ?_ | refine ba ?_ _)); refine blk_far ?_ NB286_321.out _; (with_reducible repeat (first | refine bn ?_ _ | refine bd ?_ | refine ba ?_ _)); refine blk_far ?_ NB286_321.out _; (with_reducible repeat (first | refine bn ?_ _ | refine bd ?_ | refine ba ?_ _)); exact BK286.out) hb); have n10_ := Am (blk_below (g := gb297) (o := .cells #[.slice Ao52 t290.length co52, .slice Ao56 t293.length co56] 25 (0, 0)) (by (with_reducible repeat (first | refine bn ?_ _ | refine bd ?_ | refine ba ?_ _)); refine blk_far ?_ NB297_321.out _; (with_reducible repeat (first | refine bn ?_ _ | refine bd ?_ | refine ba ?_ _)); refine blk_far ?_ NB297_321.out _; (with_reducible repeat (first | refine bn ?_ _ | refine bd ?_ | refine ba ?_ _)); exact BK297.out) hb); have n11_ := Am (blk_below (g := gb305) (o := .cells #[.slice Ao62 t298.length co62, .slice Ao67 t301.length co67] 25 (0, 0)) (by (with_reducible repeat (first | refine bn ?_ _ | refine bd ?_ | refine ba ?_ _)); refine blk_far ?_ NB305_321.out _; (with_reducible repeat (first | refine bn ?_ _ | refine bd ?_ | refine ba ?_ _)); refine blk_far ?_ NB305_321.out _; (with_reducible repeat (first | refine bn ?_ _ | refine bd ?_ | refine ba ?_ _)); exact BK305.out) hb); have n12_ := Am (blk_below (g := gb313) (o := .cells #[.slice Ao72 t306.length co72, .slice Ao78 t309.length co78] 25 (0, 0)) (by (with_reducible repeat (first | refine bn ?_ _ | refine bd ?_ | refine ba ?_ _)); refine blk_far ?_ NB313_321.out _; (with_reducible repeat (first | refine bn ?_ _ | refine bd ?_ | refine ba ?_ _)); refine blk_far ?_ NB313_321.out _; (with_reducible repeat (first | refine bn ?_ _ | refine bd ?_ | refine ba ?_ _)); exact BK313.out) hb); have n13_ := Am (blk_below (g := gb321) (o := .cells #[.slice Ao84 t314.length co84, .slice Ao91 t317.length co91] 25 (0, 0)) (by (with_reducible repeat (first | refine bn ?_ _ | refine bd ?_ | refine ba ?_ _)); refine blk_put (cs := #[.slice Ao84 t314.length co84, .slice none 0 0]) ?_ 1 _ rfl; (with_reducible repeat (first | refine bn ?_ _ | refine bd ?_ | refine ba ?_ _)); refine blk_put (cs := #[.slice none 0 0, .slice none 0 0]) ?_ 0 _ rfl; (with_reducible repeat (first | refine bn ?_ _ | refine bd ?_ | refine ba ?_ _)); exact BK321.out) hb); have n14_ := Am (below_step (by repeat (first | (with_reducible first | exact HB.out | apply bl | apply pN | apply b1 | refine bs ?_ GE285.out | refine bs ?_ GE286.out | refine bs ?_ GE297.out | refine bs ?_ GE305.out | refine bs ?_ GE313.out | refine bs ?_ GE321.out) | exact HB.out | exact HBo.out)) hb); clear HO292; clear HO295; clear HO300; clear HO303; clear HO308; clear HO311; clear HO316; clear HO319; clear BK285; clear BK286; clear BK297; clear BK305; clear BK313; clear BK321; clear HB; have HO292 := n0_; have HO295 := n1_; have HO300 := n2_; have HO303 := n3_; have HO308 := n4_; have HO311 := n5_; have HO316 := n6_; have HO319 := n7_; have BK285 := n8_; have BK286 := n9_; have BK297 := n10_; have BK305 := n11_; have BK313 := n12_; have BK321 := n13_; have HB := n14_; clear n0_ n1_ n2_ n3_ n4_ n5_ n6_ n7_ n8_ n9_ n10_ n11_ n12_ n13_ n14_; (try clear hb); (try clear hb2); (try clear hk); (try clear hi); have hcz95_0 : w94.cell? ⟨gb285, 0, none⟩ = some (.slice A0_0 l0_0.length c0_0) := (bc BK285.out 0).trans rfl; have hcz95_1 : w94.cell? ⟨gb285, 1, none⟩ = some (.slice A0_1 l0_1.length c0_1) := (bc BK285.out 1).trans rfl; have hfz95_0 := bf BK285.out 0; have hfz95_1 := bf BK285.out 1; have hcz96_0 : w94.cell? ⟨gb286, 0, none⟩ = some (.string a1_0) := (bc BK286.out 0).trans rfl; have hcz96_1 : w94.cell? ⟨gb286, 1, none⟩ = some (.slice A1_1 l1_1.length c1_1) := (bc BK286.out 1).trans rfl; have hcz96_2 : w94.cell? ⟨gb286, 2, none⟩ = some (.int .i64 a1_2) := (bc BK286.out 2).trans rfl; have hfz96_0 := bf BK286.out 0; have hfz96_1 := bf BK286.out 1; have hfz96_2 := bf BK286.out 2) | ((with_reducible refine gate_callee (f := 16) rfl ?_); refine goesL_ (some 76) rfl rfl Try.func16 (by kernel_rfl) rfl #[.agg #[.slice A0_0 l0_0.length c0_0, .slice A0_1 l0_1.length c0_1], .int .i64 a1_2] rfl (by (try simp only [List.map_toArray, List.map_cons, List.map_nil]); first | done | rfl | (simp only [List.length_drop, List.length_take]; rfl)) ?_; (with_reducible refine (shuttlecockref06_Name.calls kj2 _ _ l0_0 _ _ l0_1 a1_2 t324 t325 _ ?side1 ?side2 ?side3 ?side4 A29.out).mono ?_); (case side1 => repeat (first | exact (Kd.C_below HR0_0.out HB.out) | (with_reducible refine Kd.C_alloc ?_ _) | (with_reducible refine Kd.C_drewN ?_ _) | (with_reducible refine Kd.C_drew ?_))); (case side2 => exact HC0_0.out); (case side3 => repeat (first | exact (Kd.C_below HR0_1.out HB.out) | (with_reducible refine Kd.C_alloc ?_ _) | (with_reducible refine Kd.C_drewN ?_ _) | (with_reducible refine Kd.C_drew ?_))); (case side4 => exact HC0_1.out); rintro e w97 ⟨rfl, hb⟩; refine ⟨_, rfl, ?_⟩; have n0_ := Am (Kd.R_below (by (with_reducible repeat (first | apply Kd.R_alloc | apply Kd.R_drewN | apply Kd.R_drew)); exact HO292.out) hb); have n1_ := Am (Kd.S_below (by (with_reducible repeat (first | apply Kd.S_alloc | apply Kd.S_drewN | apply Kd.S_drew)); exact HO295.out) hb); have n2_ := Am (Kd.V_below (by (with_reducible repeat (first | apply Kd.V_alloc | apply Kd.V_drewN | apply Kd.V_drew)); exact HO300.out) hb); have n3_ := Am (Kd.V_below (by (with_reducible repeat (first | apply Kd.V_alloc | apply Kd.V_drewN | apply Kd.V_drew)); exact HO303.out) hb); have n4_ := Am (Kd.R_below (by (with_reducible repeat (first | apply Kd.R_alloc | apply Kd.R_drewN | apply Kd.R_drew)); exact HO308.out) hb); have n5_ := Am (Kd.S_below (by (with_reducible repeat (first | apply Kd.S_alloc | apply Kd.S_drewN | apply Kd.S_drew)); exact HO311.out) hb); have n6_ := Am (Kd.V_below (by (with_reducible repeat (first | apply Kd.V_alloc | apply Kd.V_drewN | apply Kd.V_drew)); exact HO316.out) hb); have n7_ := Am (Kd.V_below (by (with_reducible repeat (first | apply Kd.V_alloc | apply Kd.V_drewN | apply Kd.V_drew)); exact HO319.out) hb); have n8_ := Am (blk_below (g := gb285) (o := .cells #[.slice A0_0 l0_0.length c0_0, .slice A0_1 l0_1.length c0_1] 25 (0, 0)) (by (with_reducible repeat (first | refine bn ?_ _ | refine bd ?_ | refine ba ?_ _)); exact BK285.out) hb); have n9_ := Am (blk_below (g := gb286) (o := .cells #[.string a1_0, .slice A1_1 l1_1.length c1_1, .int .i64 a1_2] 28 (0, 0)) (by (with_reducible repeat (first | refine bn ?_ _ | refine bd ?_ | refine ba ?_ _)); exact BK286.out) hb); have n10_ := Am (blk_below (g := gb297) (o := .cells #[.slice Ao52 t290.length co52, .slice Ao56 t293.length co56] 25 (0, 0)) (by (with_reducible repeat (first | refine bn ?_ _ | refine bd ?_ | refine ba ?_ _)); exact BK297.out) hb); have n11_ := Am (blk_below (g := gb305) (o := .cells #[.slice Ao62 t298.length co62, .slice Ao67 t301.length co67] 25 (0, 0)) (by (with_reducible repeat (first | refine bn ?_ _ | refine bd ?_ | refine ba ?_ _)); exact BK305.out) hb); have n12_ := Am (blk_below (g := gb313) (o := .cells #[.slice Ao72 t306.length co72, .slice Ao78 t309.length co78] 25 (0, 0)) (by (with_reducible repeat (first | refine bn ?_ _ | refine bd ?_ | refine ba ?_ _)); exact BK313.out) hb); have n13_ := Am (blk_below (g := gb321) (o := .cells #[.slice Ao84 t314.length co84, .slice Ao91 t317.length co91] 25 (0, 0)) (by (with_reducible repeat (first | refine bn ?_ _ | refine bd ?_ | refine ba ?_ _)); exact BK321.out) hb); have n14_ := Am (below_step (by repeat (first | (with_reducible first | exact HB.out | apply bl | apply pN | apply b1 | refine bs ?_ GE285.out | refine bs ?_ GE286.out | refine bs ?_ GE297.out | refine bs ?_ GE305.out | refine bs ?_ GE313.out | refine bs ?_ GE321.out) | exact HB.out | exact HBo.out)) hb); clear HO292; clear HO295; clear HO300; clear HO303; clear HO308; clear HO311; clear HO316; clear HO319; clear BK285; clear BK286; clear BK297; clear BK305; clear BK313; clear BK321; clear HB; have HO292 := n0_; have HO295 := n1_; have HO300 := n2_; have HO303 := n3_; have HO308 := n4_; have HO311 := n5_; have HO316 := n6_; have HO319 := n7_; have BK285 := n8_; have BK286 := n9_; have BK297 := n10_; have BK305 := n11_; have BK313 := n12_; have BK321 := n13_; have HB := n14_; clear n0_ n1_ n2_ n3_ n4_ n5_ n6_ n7_ n8_ n9_ n10_ n11_ n12_ n13_ n14_; (try clear hb); (try clear hb2); (try clear hk); (try clear hi); have hcz98_0 : w97.cell? ⟨gb285, 0, none⟩ = some (.slice A0_0 l0_0.length c0_0) := (bc BK285.out 0).trans rfl; have hcz98_1 : w97.cell? ⟨gb285, 1, none⟩ = some (.slice A0_1 l0_1.length c0_1) := (bc BK285.out 1).trans rfl; have hfz98_0 := bf BK285.out 0; have hfz98_1 := bf BK285.out 1; have hcz99_0 : w97.cell? ⟨gb286, 0, none⟩ = some (.string a1_0) := (bc BK286.out 0).trans rfl; have hcz99_1 : w97.cell? ⟨gb286, 1, none⟩ = some (.slice A1_1 l1_1.length c1_1) := (bc BK286.out 1).trans rfl; have hcz99_2 : w97.cell? ⟨gb286, 2, none⟩ = some (.int .i64 a1_2) := (bc BK286.out 2).trans rfl; have hfz99_0 := bf BK286.out 0; have hfz99_1 := bf BK286.out 1; have hfz99_2 := bf BK286.out 2) | ((with_reducible refine gate_callee (f := 17) rfl ?_); refine goesL_ (some 83) rfl rfl Try.func17 (by kernel_rfl) rfl #[.agg #[.slice A0_0 l0_0.length c0_0, .slice A0_1 l0_1.length c0_1], .int .i64 a1_2] rfl (by (try simp only [List.map_toArray, List.map_cons, List.map_nil]); first | done | rfl | (simp only [List.length_drop, List.length_take]; rfl)) ?_; (with_reducible refine (intern_Frames.calls kj2 _ _ l0_0 _ _ l0_1 a1_2 t326 t329 _ ?side1 ?side2 ?side3 ?side4 A30.out).mono ?_); (case side1 => repeat (first | exact (Kd.C_below HR0_0.out HB.out) | (with_reducible refine Kd.C_alloc ?_ _) | (with_reducible refine Kd.C_drewN ?_ _) | (with_reducible refine Kd.C_drew ?_))); (case side2 => exact HC0_0.out); (case side3 => repeat (first | exact (Kd.C_below HR0_1.out HB.out) | (with_reducible refine Kd.C_alloc ?_ _) | (with_reducible refine Kd.C_drewN ?_ _) | (with_reducible refine Kd.C_drew ?_))); (case side4 => exact HC0_1.out); rintro e w100 ⟨v327, rfl, ho0, hb⟩; refine ⟨_, rfl, ?_⟩; have n0_ := Am (Kd.R_below (by (with_reducible repeat (first | apply Kd.R_alloc | apply Kd.R_drewN | apply Kd.R_drew)); exact HO292.out) hb); have n1_ := Am (Kd.S_below (by (with_reducible repeat (first | apply Kd.S_alloc | apply Kd.S_drewN | apply Kd.S_drew)); exact HO295.out) hb); have n2_ := Am (Kd.V_elder' (by (with_reducible repeat (first | apply Kd.V_alloc | apply Kd.V_drewN | apply Kd.V_drew)); exact HO300.out) (Kd.R_base ho0) hb); have n3_ := Am (Kd.V_elder' (by (with_reducible repeat (first | apply Kd.V_alloc | apply Kd.V_drewN | apply Kd.V_drew)); exact HO303.out) (Kd.R_base ho0) hb); have n4_ := Am (Kd.R_below (by (with_reducible repeat (first | apply Kd.R_alloc | apply Kd.R_drewN | apply Kd.R_drew)); exact HO308.out) hb); have n5_ := Am (Kd.S_below (by (with_reducible repeat (first | apply Kd.S_alloc | apply Kd.S_drewN | apply Kd.S_drew)); exact HO311.out) hb); have n6_ := Am (Kd.V_elder' (by (with_reducible repeat (first | apply Kd.V_alloc | apply Kd.V_drewN | apply Kd.V_drew)); exact HO316.out) (Kd.R_base ho0) hb); have n7_ := Am (Kd.V_elder' (by (with_reducible repeat (first | apply Kd.V_alloc | apply Kd.V_drewN | apply Kd.V_drew)); exact HO319.out) (Kd.R_base ho0) hb); have n8_ := Am (Kd.R_lower ho0 (below_size (by repeat (first | (with_reducible first | exact HB.out | apply bl | apply pN | apply b1 | refine bs ?_ GE285.out | refine bs ?_ GE286.out | refine bs ?_ GE297.out | refine bs ?_ GE305.out | refine bs ?_ GE313.out | refine bs ?_ GE321.out) | exact HB.out | exact HBo.out)))); have n9_ := Am (blk_below (g := gb285) (o := .cells #[.slice A0_0 l0_0.length c0_0, .slice A0_1 l0_1.length c0_1] 25 (0, 0)) (by (with_reducible repeat (first | refine bn ?_ _ | refine bd ?_ | refine ba ?_ _)); exact BK285.out) hb); have n10_ := Am (blk_below (g := gb286) (o := .cells #[.string a1_0, .slice A1_1 l1_1.length c1_1, .int .i64 a1_2] 28 (0, 0)) (by (with_reducible repeat (first | refine bn ?_ _ | refine bd ?_ | refine ba ?_ _)); exact BK286.out) hb); have n11_ := Am (blk_below (g := gb297) (o := .cells #[.slice Ao52 t290.length co52, .slice Ao56 t293.length co56] 25 (0, 0)) (by (with_reducible repeat (first | refine bn ?_ _ | refine bd ?_ | refine ba ?_ _)); exact BK297.out) hb); have n12_ := Am (blk_below (g := gb305) (o := .cells #[.slice Ao62 t298.length co62, .slice Ao67 t301.length co67] 25 (0, 0)) (by (with_reducible repeat (first | refine bn ?_ _ | refine bd ?_ | refine ba ?_ _)); exact BK305.out) hb); have n13_ := Am (blk_below (g := gb313) (o := .cells #[.slice Ao72 t306.length co72, .slice Ao78 t309.length co78] 25 (0, 0)) (by (with_reducible repeat (first | refine bn ?_ _ | refine bd ?_ | refine ba ?_ _)); exact BK313.out) hb); have n14_ := Am (blk_below (g := gb321) (o := .cells #[.slice Ao84 t314.length co84, .slice Ao91 t317.length co91] 25 (0, 0)) (by (with_reducible repeat (first | refine bn ?_ _ | refine bd ?_ | refine ba ?_ _)); exact BK321.out) hb); have n15_ := Am (below_step (by repeat (first | (with_reducible first | exact HB.out | apply bl | apply pN | apply b1 | refine bs ?_ GE285.out | refine bs ?_ GE286.out | refine bs ?_ GE297.out | refine bs ?_ GE305.out | refine bs ?_ GE313.out | refine bs ?_ GE321.out) | exact HB.out | exact HBo.out)) hb); clear HO292; clear HO295; clear HO300; clear HO303; clear HO308; clear HO311; clear HO316; clear HO319; clear BK285; clear BK286; clear BK297; clear BK305; clear BK313; clear BK321; clear HB; have HO292 := n0_; have HO295 := n1_; have HO300 := n2_; have HO303 := n3_; have HO308 := n4_; have HO311 := n5_; have HO316 := n6_; have HO319 := n7_; have HO328 := n8_; have BK285 := n9_; have BK286 := n10_; have BK297 := n11_; have BK305 := n12_; have BK313 := n13_; have BK321 := n14_; have HB := n15_; clear n0_ n1_ n2_ n3_ n4_ n5_ n6_ n7_ n8_ n9_ n10_ n11_ n12_ n13_ n14_ n15_; (try clear hb); (try clear hb2); (try clear hk); (try clear hi); (try clear ho0); have hcz101_0 : w100.cell? ⟨gb285, 0, none⟩ = some (.slice A0_0 l0_0.length c0_0) := (bc BK285.out 0).trans rfl; have hcz101_1 : w100.cell? ⟨gb285, 1, none⟩ = some (.slice A0_1 l0_1.length c0_1) := (bc BK285.out 1).trans rfl; have hfz101_0 := bf BK285.out 0; have hfz101_1 := bf BK285.out 1; have hcz102_0 : w100.cell? ⟨gb286, 0, none⟩ = some (.string a1_0) := (bc BK286.out 0).trans rfl; have hcz102_1 : w100.cell? ⟨gb286, 1, none⟩ = some (.slice A1_1 l1_1.length c1_1) := (bc BK286.out 1).trans rfl; have hcz102_2 : w100.cell? ⟨gb286, 2, none⟩ = some (.int .i64 a1_2) := (bc BK286.out 2).trans rfl; have hfz102_0 := bf BK286.out 0; have hfz102_1 := bf BK286.out 1; have hfz102_2 := bf BK286.out 2) | ((with_reducible refine gate_callee (f := 18) rfl ?_); refine goesL_ (some 90) rfl rfl Try.func18 (by kernel_rfl) rfl #[.agg #[.slice A0_0 l0_0.length c0_0, .slice A0_1 l0_1.length c0_1], .int .i64 a1_2] rfl (by (try simp only [List.map_toArray, List.map_cons, List.map_nil]); first | done | rfl | (simp only [List.length_drop, List.length_take]; rfl)) ?_; (with_reducible refine (shuttlecockref06_Frames.calls kj2 _ _ l0_0 _ _ l0_1 a1_2 t330 t333 _ ?side1 ?side2 ?side3 ?side4 A31.out).mono ?_); (case side1 => repeat (first | exact (Kd.C_below HR0_0.out HB.out) | (with_reducible refine Kd.C_alloc ?_ _) | (with_reducible refine Kd.C_drewN ?_ _) | (with_reducible refine Kd.C_drew ?_))); (case side2 => exact HC0_0.out); (case side3 => repeat (first | exact (Kd.C_below HR0_1.out HB.out) | (with_reducible refine Kd.C_alloc ?_ _) | (with_reducible refine Kd.C_drewN ?_ _) | (with_reducible refine Kd.C_drew ?_))); (case side4 => exact HC0_1.out); rintro e w103 ⟨v331, rfl, ho0, hb⟩; refine ⟨_, rfl, ?_⟩; have n0_ := Am (Kd.R_below (by (with_reducible repeat (first | apply Kd.R_alloc | apply Kd.R_drewN | apply Kd.R_drew)); exact HO292.out) hb); have n1_ := Am (Kd.S_below (by (with_reducible repeat (first | apply Kd.S_alloc | apply Kd.S_drewN | apply Kd.S_drew)); exact HO295.out) hb); have n2_ := Am (Kd.V_elder' (by (with_reducible repeat (first | apply Kd.V_alloc | apply Kd.V_drewN | apply Kd.V_drew)); exact HO300.out) (Kd.R_base ho0) hb); have n3_ := Am (Kd.V_elder' (by (with_reducible repeat (first | apply Kd.V_alloc | apply Kd.V_drewN | apply Kd.V_drew)); exact HO303.out) (Kd.R_base ho0) hb); have n4_ := Am (Kd.R_below (by (with_reducible repeat (first | apply Kd.R_alloc | apply Kd.R_drewN | apply Kd.R_drew)); exact HO308.out) hb); have n5_ := Am (Kd.S_below (by (with_reducible repeat (first | apply Kd.S_alloc | apply Kd.S_drewN | apply Kd.S_drew)); exact HO311.out) hb); have n6_ := Am (Kd.V_elder' (by (with_reducible repeat (first | apply Kd.V_alloc | apply Kd.V_drewN | apply Kd.V_drew)); exact HO316.out) (Kd.R_base ho0) hb); have n7_ := Am (Kd.V_elder' (by (with_reducible repeat (first | apply Kd.V_alloc | apply Kd.V_drewN | apply Kd.V_drew)); exact HO319.out) (Kd.R_base ho0) hb); have n8_ := Am (Kd.R_elder' (by (with_reducible repeat (first | apply Kd.R_alloc | apply Kd.R_drewN | apply Kd.R_drew)); exact HO328.out) (Kd.R_base ho0) hb); have n9_ := Am (Kd.R_lower (Kd.R_new' ho0 (Kd.R_lt (by (with_reducible repeat (first | apply Kd.R_alloc | apply Kd.R_drewN | apply Kd.R_drew)); exact HO328.out))) (below_size (by repeat (first | (with_reducible first | exact HB.out | apply bl | apply pN | apply b1 | refine bs ?_ GE285.out | refine bs ?_ GE286.out | refine bs ?_ GE297.out | refine bs ?_ GE305.out | refine bs ?_ GE313.out | refine bs ?_ GE321.out) | exact HB.out | exact HBo.out)))); have n10_ := Am (blk_below (g := gb285) (o := .cells #[.slice A0_0 l0_0.length c0_0, .slice A0_1 l0_1.length c0_1] 25 (0, 0)) (by (with_reducible repeat (first | refine bn ?_ _ | refine bd ?_ | refine ba ?_ _)); exact BK285.out) hb); have n11_ := Am (blk_below (g := gb286) (o := .cells #[.string a1_0, .slice A1_1 l1_1.length c1_1, .int .i64 a1_2] 28 (0, 0)) (by (with_reducible repeat (first | refine bn ?_ _ | refine bd ?_ | refine ba ?_ _)); exact BK286.out) hb); have n12_ := Am (blk_below (g := gb297) (o := .cells #[.slice Ao52 t290.length co52, .slice Ao56 t293.length co56] 25 (0, 0)) (by (with_reducible repeat (first | refine bn ?_ _ | refine bd ?_ | refine ba ?_ _)); exact BK297.out) hb); have n13_ := Am (blk_below (g := gb305) (o := .cells #[.slice Ao62 t298.length co62, .slice Ao67 t301.length co67] 25 (0, 0)) (by (with_reducible repeat (first | refine bn ?_ _ | refine bd ?_ | refine ba ?_ _)); exact BK305.out) hb); have n14_ := Am (blk_below (g := gb313) (o := .cells #[.slice Ao72 t306.length co72, .slice Ao78 t309.length co78] 25 (0, 0)) (by (with_reducible repeat (first | refine bn ?_ _ | refine bd ?_ | refine ba ?_ _)); exact BK313.out) hb); have n15_ := Am (blk_below (g := gb321) (o := .cells #[.slice Ao84 t314.length co84, .slice Ao91 t317.length co91] 25 (0, 0)) (by (with_reducible repeat (first | refine bn ?_ _ | refine bd ?_ | refine ba ?_ _)); exact BK321.out) hb); have n16_ := Am (below_step (by repeat (first | (with_reducible first | exact HB.out | apply bl | apply pN | apply b1 | refine bs ?_ GE285.out | refine bs ?_ GE286.out | refine bs ?_ GE297.out | refine bs ?_ GE305.out | refine bs ?_ GE313.out | refine bs ?_ GE321.out) | exact HB.out | exact HBo.out)) hb); clear HO292; clear HO295; clear HO300; clear HO303; clear HO308; clear HO311; clear HO316; clear HO319; clear HO328; clear BK285; clear BK286; clear BK297; clear BK305; clear BK313; clear BK321; clear HB; have HO292 := n0_; have HO295 := n1_; have HO300 := n2_; have HO303 := n3_; have HO308 := n4_; have HO311 := n5_; have HO316 := n6_; have HO319 := n7_; have HO328 := n8_; have HO332 := n9_; have BK285 := n10_; have BK286 := n11_; have BK297 := n12_; have BK305 := n13_; have BK313 := n14_; have BK321 := n15_; have HB := n16_; clear n0_ n1_ n2_ n3_ n4_ n5_ n6_ n7_ n8_ n9_ n10_ n11_ n12_ n13_ n14_ n15_ n16_; (try clear hb); (try clear hb2); (try clear hk); (try clear hi); (try clear ho0)))
             have n0_ := Am (Kd.R_drew HO292.out)
             have n1_ := Am (Kd.S_drew HO295.out)
             have n2_ := Am (Kd.V_drew HO300.out)
             have n3_ := Am (Kd.V_drew HO303.out)
             have n4_ := Am (Kd.R_drew HO308.out)
             have n5_ := Am (Kd.S_drew HO311.out)
             have n6_ := Am (Kd.V_drew HO316.out)
             have n7_ := Am (Kd.V_drew HO319.out)
             have n8_ := Am (Kd.R_drew HO328.out)
             have n9_ := Am (Kd.R_drew HO332.out)
             have n10_ := Am (bd BK285.out)
             have n11_ := Am (bd BK286.out)
             have n12_ := Am (bd BK297.out)
             have n13_ := Am (bd BK305.out)
             have n14_ := Am (bd BK313.out)
             have n15_ := Am (bd BK321.out)
             have n16_ := Am (b1 HB.out)
             clear HO292
             clear HO295
             clear HO300
             clear HO303
             clear HO308
             clear HO311
             clear HO316
             clear HO319
             clear HO328
             clear HO332
             clear BK285
             clear BK286
             clear BK297
             clear BK305
             clear BK313
             clear BK321
             clear HB
             have HO292 := n0_
             have HO295 := n1_
             have HO300 := n2_
             have HO303 := n3_
             have HO308 := n4_
             have HO311 := n5_
             have HO316 := n6_
             have HO319 := n7_
             have HO328 := n8_
             have HO332 := n9_
             have BK285 := n10_
             have BK286 := n11_
             have BK297 := n12_
             have BK305 := n13_
             have BK313 := n14_
             have BK321 := n15_
             have HB := n16_
             clear n0_ n1_ n2_ n3_ n4_ n5_ n6_ n7_ n8_ n9_ n10_ n11_ n12_ n13_ n14_ n15_ n16_
             refine start_ (n := 49) (S := fun w' => w'.cell? ⟨gb285, 0, none⟩ = some (.slice A0_0 l0_0.length c0_0) ∧ w'.cell? ⟨gb285, 1, none⟩ = some (.slice A0_1 l0_1.length c0_1) ∧ w'.cell? ⟨gb297, 0, none⟩ = some (.slice Ao52 t290.length co52) ∧ w'.cell? ⟨gb297, 1, none⟩ = some (.slice Ao56 t293.length co56) ∧ w'.cell? ⟨gb305, 0, none⟩ = some (.slice Ao62 t298.length co62) ∧ w'.cell? ⟨gb305, 1, none⟩ = some (.slice Ao67 t301.length co67) ∧ w'.cell? ⟨gb313, 0, none⟩ = some (.slice Ao72 t306.length co72) ∧ w'.cell? ⟨gb313, 1, none⟩ = some (.slice Ao78 t309.length co78) ∧ w'.cell? ⟨gb321, 0, none⟩ = some (.slice Ao84 t314.length co84) ∧ w'.cell? ⟨gb321, 1, none⟩ = some (.slice Ao91 t317.length co91)) (ds := []) q13_0 (by kernel_rfl) rfl rfl ⟨(bc BK285.out 0).trans rfl, (bc BK285.out 1).trans rfl, (bc BK297.out 0).trans rfl, (bc BK297.out 1).trans rfl, (bc BK305.out 0).trans rfl, (bc BK305.out 1).trans rfl, (bc BK313.out 0).trans rfl, (bc BK313.out 1).trans rfl, (bc BK321.out 0).trans rfl, (bc BK321.out 1).trans rfl⟩ (fun hHeld => ?_); refine with_tabW shuttlecocklaw06_InternTells.tab11 shuttlecocklaw06_InternTells.bits11 (fun HT_ HW_ => ?_)
             generalize w103.drew = w104 at HO292 HO295 HO300 HO303 HO308 HO311 HO316 HO319 HO328 HO332 BK285 BK286 BK297 BK305 BK313 BK321 HB hHeld ⊢
             refine one_ (i := 0) (N := some 93) q13_1 rfl rfl (one_of HT_.out (by kernel_rfl)) (by decide) (fun K hK => ?_)
             refine goes_ Try.func10 (by kernel_rfl) rfl #[] (by rfl) rfl rfl (by (try simp only [List.map_toArray, List.map_cons, List.map_nil]); first | done | rfl | (simp only [List.length_drop, List.length_take]; rfl)) ?_
             with_reducible refine (shuttlecocklaw06_fixed.calls kj2  true _ A32.out).mono ?_
             rintro e w105 ⟨rfl, hb⟩
             refine ⟨_, rfl, ?_⟩
             have n0_ := Am (Kd.R_below (by (with_reducible repeat (first | apply Kd.R_alloc | apply Kd.R_drewN | apply Kd.R_drew)); exact HO292.out) hb)
             have n1_ := Am (Kd.S_below (by (with_reducible repeat (first | apply Kd.S_alloc | apply Kd.S_drewN | apply Kd.S_drew)); exact HO295.out) hb)
             have n2_ := Am (Kd.V_below (by (with_reducible repeat (first | apply Kd.V_alloc | apply Kd.V_drewN | apply Kd.V_drew)); exact HO300.out) hb)
             have n3_ := Am (Kd.V_below (by (with_reducible repeat (first | apply Kd.V_alloc | apply Kd.V_drewN | apply Kd.V_drew)); exact HO303.out) hb)
             have n4_ := Am (Kd.R_below (by (with_reducible repeat (first | apply Kd.R_alloc | apply Kd.R_drewN | apply Kd.R_drew)); exact HO308.out) hb)
             have n5_ := Am (Kd.S_below (by (with_reducible repeat (first | apply Kd.S_alloc | apply Kd.S_drewN | apply Kd.S_drew)); exact HO311.out) hb)
             have n6_ := Am (Kd.V_below (by (with_reducible repeat (first | apply Kd.V_alloc | apply Kd.V_drewN | apply Kd.V_drew)); exact HO316.out) hb)
             have n7_ := Am (Kd.V_below (by (with_reducible repeat (first | apply Kd.V_alloc | apply Kd.V_drewN | apply Kd.V_drew)); exact HO319.out) hb)
             have n8_ := Am (Kd.R_below (by (with_reducible repeat (first | apply Kd.R_alloc | apply Kd.R_drewN | apply Kd.R_drew)); exact HO328.out) hb)
             have n9_ := Am (Kd.R_below (by (with_reducible repeat (first | apply Kd.R_alloc | apply Kd.R_drewN | apply Kd.R_drew)); exact HO332.out) hb)
             have n10_ := Am (blk_below (g := gb285) (o := .cells #[.slice A0_0 l0_0.length c0_0, .slice A0_1 l0_1.length c0_1] 25 (0, 0)) (by (with_reducible repeat (first | refine bn ?_ _ | refine bd ?_ | refine ba ?_ _)); exact BK285.out) hb)
             have n11_ := Am (blk_below (g := gb286) (o := .cells #[.string a1_0, .slice A1_1 l1_1.length c1_1, .int .i64 a1_2] 28 (0, 0)) (by (with_reducible repeat (first | refine bn ?_ _ | refine bd ?_ | refine ba ?_ _)); exact BK286.out) hb)
             have n12_ := Am (blk_below (g := gb297) (o := .cells #[.slice Ao52 t290.length co52, .slice Ao56 t293.length co56] 25 (0, 0)) (by (with_reducible repeat (first | refine bn ?_ _ | refine bd ?_ | refine ba ?_ _)); exact BK297.out) hb)
             have n13_ := Am (blk_below (g := gb305) (o := .cells #[.slice Ao62 t298.length co62, .slice Ao67 t301.length co67] 25 (0, 0)) (by (with_reducible repeat (first | refine bn ?_ _ | refine bd ?_ | refine ba ?_ _)); exact BK305.out) hb)
             have n14_ := Am (blk_below (g := gb313) (o := .cells #[.slice Ao72 t306.length co72, .slice Ao78 t309.length co78] 25 (0, 0)) (by (with_reducible repeat (first | refine bn ?_ _ | refine bd ?_ | refine ba ?_ _)); exact BK313.out) hb)
             have n15_ := Am (blk_below (g := gb321) (o := .cells #[.slice Ao84 t314.length co84, .slice Ao91 t317.length co91] 25 (0, 0)) (by (with_reducible repeat (first | refine bn ?_ _ | refine bd ?_ | refine ba ?_ _)); exact BK321.out) hb)
             have n16_ := Am (below_step (by repeat (first | (with_reducible first | exact HB.out | apply bl | apply pN | apply b1 | refine bs ?_ GE285.out | refine bs ?_ GE286.out | refine bs ?_ GE297.out | refine bs ?_ GE305.out | refine bs ?_ GE313.out | refine bs ?_ GE321.out) | exact HB.out | exact HBo.out)) hb)
             clear HO292
             clear HO295
             clear HO300
             clear HO303
             clear HO308
             clear HO311
             clear HO316
             clear HO319
             clear HO328
             clear HO332
             clear BK285
             clear BK286
             clear BK297
             clear BK305
             clear BK313
             clear BK321
             clear HB
             have HO292 := n0_
             have HO295 := n1_
             have HO300 := n2_
             have HO303 := n3_
             have HO308 := n4_
             have HO311 := n5_
             have HO316 := n6_
             have HO319 := n7_
             have HO328 := n8_
             have HO332 := n9_
             have BK285 := n10_
             have BK286 := n11_
             have BK297 := n12_
             have BK305 := n13_
             have BK313 := n14_
             have BK321 := n15_
             have HB := n16_
             clear n0_ n1_ n2_ n3_ n4_ n5_ n6_ n7_ n8_ n9_ n10_ n11_ n12_ n13_ n14_ n15_ n16_
             (try clear hb)
             (try clear hb2)
             (try clear hk)
             (try clear hi)
             refine hK.out _ _ ⟨(bc BK285.out 0).trans rfl, (bc BK285.out 1).trans rfl, (bc BK297.out 0).trans rfl, (bc BK297.out 1).trans rfl, (bc BK305.out 0).trans rfl, (bc BK305.out 1).trans rfl, (bc BK313.out 0).trans rfl, (bc BK313.out 1).trans rfl, (bc BK321.out 0).trans rfl, (bc BK321.out 1).trans rfl⟩ (fun hHeld => ?_)
             clear hK K
             refine norm_ (a' := ?_) ?_ ?_
             rotate_left
             ·
              show Act.put _ (some 93) _ = _
              simp only [Act.put, sI, sZ, sS, i64_w, i32_w]
              rfl
             refine Own.pr_ 1 (some 94) q13_2 HT_ (h := ?_)
             refine Own.tk_ 2 (some 95) q13_3 HT_ HW_ hHeld (hy := by rintro w' ⟨s0, s1, s2, s3, s4, s5, s6, s7, s8, s9⟩; go_simp; with_reducible rfl) (h := ?_)
             refine Own.tk_ 4 (some 97) q13_4 HT_ HW_ hHeld (hy := by rintro w' ⟨s0, s1, s2, s3, s4, s5, s6, s7, s8, s9⟩; go_simp; with_reducible rfl) (h := ?_)
             refine one_ (i := 3) (N := some 96) q13_5 rfl rfl (one_of HT_.out (by kernel_rfl)) (by decide) (fun K hK => ?_)
             refine goes_ Try.func19 (by kernel_rfl) rfl #[.agg #[.slice A0_0 l0_0.length c0_0, .slice A0_1 l0_1.length c0_1]] (by rfl) rfl rfl (by (try simp only [List.map_toArray, List.map_cons, List.map_nil]); first | done | rfl | (simp only [List.length_drop, List.length_take]; rfl)) ?_
             with_reducible refine (intern_May.calls kj2 _ _ l0_0 _ _ l0_1 t335 _ ?side1 ?side2 ?side3 ?side4 A34.out).mono ?_
             (case side1 => repeat (first | exact (Kd.C_below HR0_0.out HB.out) | (with_reducible refine Kd.C_alloc ?_ _) | (with_reducible refine Kd.C_drewN ?_ _) | (with_reducible refine Kd.C_drew ?_)))
             (case side2 => exact HC0_0.out)
             (case side3 => repeat (first | exact (Kd.C_below HR0_1.out HB.out) | (with_reducible refine Kd.C_alloc ?_ _) | (with_reducible refine Kd.C_drewN ?_ _) | (with_reducible refine Kd.C_drew ?_)))
             (case side4 => exact HC0_1.out)
             rintro e w106 ⟨rfl, hb⟩
             refine ⟨_, rfl, ?_⟩
             have n0_ := Am (Kd.R_below (by (with_reducible repeat (first | apply Kd.R_alloc | apply Kd.R_drewN | apply Kd.R_drew)); exact HO292.out) hb)
             have n1_ := Am (Kd.S_below (by (with_reducible repeat (first | apply Kd.S_alloc | apply Kd.S_drewN | apply Kd.S_drew)); exact HO295.out) hb)
             have n2_ := Am (Kd.V_below (by (with_reducible repeat (first | apply Kd.V_alloc | apply Kd.V_drewN | apply Kd.V_drew)); exact HO300.out) hb)
             have n3_ := Am (Kd.V_below (by (with_reducible repeat (first | apply Kd.V_alloc | apply Kd.V_drewN | apply Kd.V_drew)); exact HO303.out) hb)
             have n4_ := Am (Kd.R_below (by (with_reducible repeat (first | apply Kd.R_alloc | apply Kd.R_drewN | apply Kd.R_drew)); exact HO308.out) hb)
             have n5_ := Am (Kd.S_below (by (with_reducible repeat (first | apply Kd.S_alloc | apply Kd.S_drewN | apply Kd.S_drew)); exact HO311.out) hb)
             have n6_ := Am (Kd.V_below (by (with_reducible repeat (first | apply Kd.V_alloc | apply Kd.V_drewN | apply Kd.V_drew)); exact HO316.out) hb)
             have n7_ := Am (Kd.V_below (by (with_reducible repeat (first | apply Kd.V_alloc | apply Kd.V_drewN | apply Kd.V_drew)); exact HO319.out) hb)
             have n8_ := Am (Kd.R_below (by (with_reducible repeat (first | apply Kd.R_alloc | apply Kd.R_drewN | apply Kd.R_drew)); exact HO328.out) hb)
             have n9_ := Am (Kd.R_below (by (with_reducible repeat (first | apply Kd.R_alloc | apply Kd.R_drewN | apply Kd.R_drew)); exact HO332.out) hb)
             have n10_ := Am (blk_below (g := gb285) (o := .cells #[.slice A0_0 l0_0.length c0_0, .slice A0_1 l0_1.length c0_1] 25 (0, 0)) (by (with_reducible repeat (first | refine bn ?_ _ | refine bd ?_ | refine ba ?_ _)); exact BK285.out) hb)
             have n11_ := Am (blk_below (g := gb286) (o := .cells #[.string a1_0, .slice A1_1 l1_1.length c1_1, .int .i64 a1_2] 28 (0, 0)) (by (with_reducible repeat (first | refine bn ?_ _ | refine bd ?_ | refine ba ?_ _)); exact BK286.out) hb)
             have n12_ := Am (blk_below (g := gb297) (o := .cells #[.slice Ao52 t290.length co52, .slice Ao56 t293.length co56] 25 (0, 0)) (by (with_reducible repeat (first | refine bn ?_ _ | refine bd ?_ | refine ba ?_ _)); exact BK297.out) hb)
             have n13_ := Am (blk_below (g := gb305) (o := .cells #[.slice Ao62 t298.length co62, .slice Ao67 t301.length co67] 25 (0, 0)) (by (with_reducible repeat (first | refine bn ?_ _ | refine bd ?_ | refine ba ?_ _)); exact BK305.out) hb)
             have n14_ := Am (blk_below (g := gb313) (o := .cells #[.slice Ao72 t306.length co72, .slice Ao78 t309.length co78] 25 (0, 0)) (by (with_reducible repeat (first | refine bn ?_ _ | refine bd ?_ | refine ba ?_ _)); exact BK313.out) hb)
             have n15_ := Am (blk_below (g := gb321) (o := .cells #[.slice Ao84 t314.length co84, .slice Ao91 t317.length co91] 25 (0, 0)) (by (with_reducible repeat (first | refine bn ?_ _ | refine bd ?_ | refine ba ?_ _)); exact BK321.out) hb)
             have n16_ := Am (below_step (by repeat (first | (with_reducible first | exact HB.out | apply bl | apply pN | apply b1 | refine bs ?_ GE285.out | refine bs ?_ GE286.out | refine bs ?_ GE297.out | refine bs ?_ GE305.out | refine bs ?_ GE313.out | refine bs ?_ GE321.out) | exact HB.out | exact HBo.out)) hb)
             clear HO292
             clear HO295
             clear HO300
             clear HO303
             clear HO308
             clear HO311
             clear HO316
             clear HO319
             clear HO328
             clear HO332
             clear BK285
             clear BK286
             clear BK297
             clear BK305
             clear BK313
             clear BK321
             clear HB
             have HO292 := n0_
             have HO295 := n1_
             have HO300 := n2_
             have HO303 := n3_
             have HO308 := n4_
             have HO311 := n5_
             have HO316 := n6_
             have HO319 := n7_
             have HO328 := n8_
             have HO332 := n9_
             have BK285 := n10_
             have BK286 := n11_
             have BK297 := n12_
             have BK305 := n13_
             have BK313 := n14_
             have BK321 := n15_
             have HB := n16_
             clear n0_ n1_ n2_ n3_ n4_ n5_ n6_ n7_ n8_ n9_ n10_ n11_ n12_ n13_ n14_ n15_ n16_
             (try clear hb)
             (try clear hb2)
             (try clear hk)
             (try clear hi)
             refine hK.out _ _ ⟨(bc BK285.out 0).trans rfl, (bc BK285.out 1).trans rfl, (bc BK297.out 0).trans rfl, (bc BK297.out 1).trans rfl, (bc BK305.out 0).trans rfl, (bc BK305.out 1).trans rfl, (bc BK313.out 0).trans rfl, (bc BK313.out 1).trans rfl, (bc BK321.out 0).trans rfl, (bc BK321.out 1).trans rfl⟩ (fun hHeld => ?_)
             clear hK K
             refine norm_ (a' := ?_) ?_ ?_
             rotate_left
             ·
              show Act.put _ (some 96) _ = _
              simp only [Act.put, sI, sZ, sS, i64_w, i32_w]
              rfl
             refine one_ (i := 5) (N := some 98) q13_6 rfl rfl (one_of HT_.out (by kernel_rfl)) (by decide) (fun K hK => ?_)
             refine goes_ Try.func20 (by kernel_rfl) rfl #[.agg #[.slice A0_0 l0_0.length c0_0, .slice A0_1 l0_1.length c0_1]] (by rfl) rfl rfl (by (try simp only [List.map_toArray, List.map_cons, List.map_nil]); first | done | rfl | (simp only [List.length_drop, List.length_take]; rfl)) ?_
             with_reducible refine (shuttlecockref06_May.calls kj2 _ _ l0_0 _ _ l0_1 t336 _ ?side1 ?side2 ?side3 ?side4 A35.out).mono ?_
             (case side1 => repeat (first | exact (Kd.C_below HR0_0.out HB.out) | (with_reducible refine Kd.C_alloc ?_ _) | (with_reducible refine Kd.C_drewN ?_ _) | (with_reducible refine Kd.C_drew ?_)))
             (case side2 => exact HC0_0.out)
             (case side3 => repeat (first | exact (Kd.C_below HR0_1.out HB.out) | (with_reducible refine Kd.C_alloc ?_ _) | (with_reducible refine Kd.C_drewN ?_ _) | (with_reducible refine Kd.C_drew ?_)))
             (case side4 => exact HC0_1.out)
             rintro e w107 ⟨rfl, hb⟩
             refine ⟨_, rfl, ?_⟩
             have n0_ := Am (Kd.R_below (by (with_reducible repeat (first | apply Kd.R_alloc | apply Kd.R_drewN | apply Kd.R_drew)); exact HO292.out) hb)
             have n1_ := Am (Kd.S_below (by (with_reducible repeat (first | apply Kd.S_alloc | apply Kd.S_drewN | apply Kd.S_drew)); exact HO295.out) hb)
             have n2_ := Am (Kd.V_below (by (with_reducible repeat (first | apply Kd.V_alloc | apply Kd.V_drewN | apply Kd.V_drew)); exact HO300.out) hb)
             have n3_ := Am (Kd.V_below (by (with_reducible repeat (first | apply Kd.V_alloc | apply Kd.V_drewN | apply Kd.V_drew)); exact HO303.out) hb)
             have n4_ := Am (Kd.R_below (by (with_reducible repeat (first | apply Kd.R_alloc | apply Kd.R_drewN | apply Kd.R_drew)); exact HO308.out) hb)
             have n5_ := Am (Kd.S_below (by (with_reducible repeat (first | apply Kd.S_alloc | apply Kd.S_drewN | apply Kd.S_drew)); exact HO311.out) hb)
             have n6_ := Am (Kd.V_below (by (with_reducible repeat (first | apply Kd.V_alloc | apply Kd.V_drewN | apply Kd.V_drew)); exact HO316.out) hb)
             have n7_ := Am (Kd.V_below (by (with_reducible repeat (first | apply Kd.V_alloc | apply Kd.V_drewN | apply Kd.V_drew)); exact HO319.out) hb)
             have n8_ := Am (Kd.R_below (by (with_reducible repeat (first | apply Kd.R_alloc | apply Kd.R_drewN | apply Kd.R_drew)); exact HO328.out) hb)
             have n9_ := Am (Kd.R_below (by (with_reducible repeat (first | apply Kd.R_alloc | apply Kd.R_drewN | apply Kd.R_drew)); exact HO332.out) hb)
             have n10_ := Am (blk_below (g := gb285) (o := .cells #[.slice A0_0 l0_0.length c0_0, .slice A0_1 l0_1.length c0_1] 25 (0, 0)) (by (with_reducible repeat (first | refine bn ?_ _ | refine bd ?_ | refine ba ?_ _)); exact BK285.out) hb)
             have n11_ := Am (blk_below (g := gb286) (o := .cells #[.string a1_0, .slice A1_1 l1_1.length c1_1, .int .i64 a1_2] 28 (0, 0)) (by (with_reducible repeat (first | refine bn ?_ _ | refine bd ?_ | refine ba ?_ _)); exact BK286.out) hb)
             have n12_ := Am (blk_below (g := gb297) (o := .cells #[.slice Ao52 t290.length co52, .slice Ao56 t293.length co56] 25 (0, 0)) (by (with_reducible repeat (first | refine bn ?_ _ | refine bd ?_ | refine ba ?_ _)); exact BK297.out) hb)
             have n13_ := Am (blk_below (g := gb305) (o := .cells #[.slice Ao62 t298.length co62, .slice Ao67 t301.length co67] 25 (0, 0)) (by (with_reducible repeat (first | refine bn ?_ _ | refine bd ?_ | refine ba ?_ _)); exact BK305.out) hb)
             have n14_ := Am (blk_below (g := gb313) (o := .cells #[.slice Ao72 t306.length co72, .slice Ao78 t309.length co78] 25 (0, 0)) (by (with_reducible repeat (first | refine bn ?_ _ | refine bd ?_ | refine ba ?_ _)); exact BK313.out) hb)
             have n15_ := Am (blk_below (g := gb321) (o := .cells #[.slice Ao84 t314.length co84, .slice Ao91 t317.length co91] 25 (0, 0)) (by (with_reducible repeat (first | refine bn ?_ _ | refine bd ?_ | refine ba ?_ _)); exact BK321.out) hb)
             have n16_ := Am (below_step (by repeat (first | (with_reducible first | exact HB.out | apply bl | apply pN | apply b1 | refine bs ?_ GE285.out | refine bs ?_ GE286.out | refine bs ?_ GE297.out | refine bs ?_ GE305.out | refine bs ?_ GE313.out | refine bs ?_ GE321.out) | exact HB.out | exact HBo.out)) hb)
             clear HO292
             clear HO295
             clear HO300
             clear HO303
             clear HO308
             clear HO311
             clear HO316
             clear HO319
             clear HO328
             clear HO332
             clear BK285
             clear BK286
             clear BK297
             clear BK305
             clear BK313
             clear BK321
             clear HB
             have HO292 := n0_
             have HO295 := n1_
             have HO300 := n2_
             have HO303 := n3_
             have HO308 := n4_
             have HO311 := n5_
             have HO316 := n6_
             have HO319 := n7_
             have HO328 := n8_
             have HO332 := n9_
             have BK285 := n10_
             have BK286 := n11_
             have BK297 := n12_
             have BK305 := n13_
             have BK313 := n14_
             have BK321 := n15_
             have HB := n16_
             clear n0_ n1_ n2_ n3_ n4_ n5_ n6_ n7_ n8_ n9_ n10_ n11_ n12_ n13_ n14_ n15_ n16_
             (try clear hb)
             (try clear hb2)
             (try clear hk)
             (try clear hi)
             refine hK.out _ _ ⟨(bc BK285.out 0).trans rfl, (bc BK285.out 1).trans rfl, (bc BK297.out 0).trans rfl, (bc BK297.out 1).trans rfl, (bc BK305.out 0).trans rfl, (bc BK305.out 1).trans rfl, (bc BK313.out 0).trans rfl, (bc BK313.out 1).trans rfl, (bc BK321.out 0).trans rfl, (bc BK321.out 1).trans rfl⟩ (fun hHeld => ?_)
             clear hK K
             refine norm_ (a' := ?_) ?_ ?_
             rotate_left
             ·
              show Act.put _ (some 98) _ = _
              simp only [Act.put, sI, sZ, sS, i64_w, i32_w]
              rfl
             refine Own.pr_ 6 (some 99) q13_7 HT_ (h := ?_)
             refine Own.pr_ 7 (some 100) q13_8 HT_ (h := ?_)
             refine Own.pr_ 8 (some 101) q13_9 HT_ (h := ?_)
             refine Own.tk_ 9 (some 102) q13_10 HT_ HW_ hHeld (hy := by rintro w' ⟨s0, s1, s2, s3, s4, s5, s6, s7, s8, s9⟩; go_simp; with_reducible rfl) (h := ?_)
             refine Own.tk_ 10 (some 103) q13_11 HT_ HW_ hHeld (hy := by rintro w' ⟨s0, s1, s2, s3, s4, s5, s6, s7, s8, s9⟩; go_simp; with_reducible rfl) (h := ?_)
             refine one_ (i := 11) (N := some 104) q13_12 rfl rfl (one_of HT_.out (by kernel_rfl)) (by decide) (fun K hK => ?_)
             refine goes_ Try.func21 (by kernel_rfl) rfl #[.agg #[.slice Ao52 t290.length co52, .slice Ao56 t293.length co56], .agg #[.slice Ao62 t298.length co62, .slice Ao67 t301.length co67]] (by rfl) rfl rfl (by (try simp only [List.map_toArray, List.map_cons, List.map_nil]); first | done | rfl | (simp only [List.length_drop, List.length_take]; rfl)) ?_
             with_reducible refine (shuttlecockref06_Same.calls kj2 _ _ t290 _ _ t293 _ _ t298 _ _ t301 true _ ?side1 ?side2 ?side3 ?side4 ?side5 ?side6 ?side7 ?side8 A37.out).mono ?_
             (case side1 => repeat (first | exact (Kd.R_reads' HO292.out).2.2 | (with_reducible refine Kd.C_alloc ?_ _) | (with_reducible refine Kd.C_drewN ?_ _) | (with_reducible refine Kd.C_drew ?_)))
             (case side2 => exact (Kd.R_reads' HO292.out).2.1)
             (case side3 => repeat (first | exact (Kd.S_reads' HO295.out).2.2 | (with_reducible refine Kd.C_alloc ?_ _) | (with_reducible refine Kd.C_drewN ?_ _) | (with_reducible refine Kd.C_drew ?_)))
             (case side4 => exact (Kd.S_reads' HO295.out).2.1)
             (case side5 => repeat (first | exact (Kd.V_reads' HO300.out).2.2 | (with_reducible refine Kd.C_alloc ?_ _) | (with_reducible refine Kd.C_drewN ?_ _) | (with_reducible refine Kd.C_drew ?_)))
             (case side6 => exact (Kd.V_reads' HO300.out).2.1)
             (case side7 => repeat (first | exact (Kd.V_reads' HO303.out).2.2 | (with_reducible refine Kd.C_alloc ?_ _) | (with_reducible refine Kd.C_drewN ?_ _) | (with_reducible refine Kd.C_drew ?_)))
             (case side8 => exact (Kd.V_reads' HO303.out).2.1)
             rintro e w108 ⟨rfl, hb⟩
             refine ⟨_, rfl, ?_⟩
             have n0_ := Am (Kd.R_below (by (with_reducible repeat (first | apply Kd.R_alloc | apply Kd.R_drewN | apply Kd.R_drew)); exact HO292.out) hb)
             have n1_ := Am (Kd.S_below (by (with_reducible repeat (first | apply Kd.S_alloc | apply Kd.S_drewN | apply Kd.S_drew)); exact HO295.out) hb)
             have n2_ := Am (Kd.V_below (by (with_reducible repeat (first | apply Kd.V_alloc | apply Kd.V_drewN | apply Kd.V_drew)); exact HO300.out) hb)
             have n3_ := Am (Kd.V_below (by (with_reducible repeat (first | apply Kd.V_alloc | apply Kd.V_drewN | apply Kd.V_drew)); exact HO303.out) hb)
             have n4_ := Am (Kd.R_below (by (with_reducible repeat (first | apply Kd.R_alloc | apply Kd.R_drewN | apply Kd.R_drew)); exact HO308.out) hb)
             have n5_ := Am (Kd.S_below (by (with_reducible repeat (first | apply Kd.S_alloc | apply Kd.S_drewN | apply Kd.S_drew)); exact HO311.out) hb)
             have n6_ := Am (Kd.V_below (by (with_reducible repeat (first | apply Kd.V_alloc | apply Kd.V_drewN | apply Kd.V_drew)); exact HO316.out) hb)
             have n7_ := Am (Kd.V_below (by (with_reducible repeat (first | apply Kd.V_alloc | apply Kd.V_drewN | apply Kd.V_drew)); exact HO319.out) hb)
             have n8_ := Am (Kd.R_below (by (with_reducible repeat (first | apply Kd.R_alloc | apply Kd.R_drewN | apply Kd.R_drew)); exact HO328.out) hb)
             have n9_ := Am (Kd.R_below (by (with_reducible repeat (first | apply Kd.R_alloc | apply Kd.R_drewN | apply Kd.R_drew)); exact HO332.out) hb)
             have n10_ := Am (blk_below (g := gb285) (o := .cells #[.slice A0_0 l0_0.length c0_0, .slice A0_1 l0_1.length c0_1] 25 (0, 0)) (by (with_reducible repeat (first | refine bn ?_ _ | refine bd ?_ | refine ba ?_ _)); exact BK285.out) hb)
             have n11_ := Am (blk_below (g := gb286) (o := .cells #[.string a1_0, .slice A1_1 l1_1.length c1_1, .int .i64 a1_2] 28 (0, 0)) (by (with_reducible repeat (first | refine bn ?_ _ | refine bd ?_ | refine ba ?_ _)); exact BK286.out) hb)
             have n12_ := Am (blk_below (g := gb297) (o := .cells #[.slice Ao52 t290.length co52, .slice Ao56 t293.length co56] 25 (0, 0)) (by (with_reducible repeat (first | refine bn ?_ _ | refine bd ?_ | refine ba ?_ _)); exact BK297.out) hb)
             have n13_ := Am (blk_below (g := gb305) (o := .cells #[.slice Ao62 t298.length co62, .slice Ao67 t301.length co67] 25 (0, 0)) (by (with_reducible repeat (first | refine bn ?_ _ | refine bd ?_ | refine ba ?_ _)); exact BK305.out) hb)
             have n14_ := Am (blk_below (g := gb313) (o := .cells #[.slice Ao72 t306.length co72, .slice Ao78 t309.length co78] 25 (0, 0)) (by (with_reducible repeat (first | refine bn ?_ _ | refine bd ?_ | refine ba ?_ _)); exact BK313.out) hb)
             have n15_ := Am (blk_below (g := gb321) (o := .cells #[.slice Ao84 t314.length co84, .slice Ao91 t317.length co91] 25 (0, 0)) (by (with_reducible repeat (first | refine bn ?_ _ | refine bd ?_ | refine ba ?_ _)); exact BK321.out) hb)
             have n16_ := Am (below_step (by repeat (first | (with_reducible first | exact HB.out | apply bl | apply pN | apply b1 | refine bs ?_ GE285.out | refine bs ?_ GE286.out | refine bs ?_ GE297.out | refine bs ?_ GE305.out | refine bs ?_ GE313.out | refine bs ?_ GE321.out) | exact HB.out | exact HBo.out)) hb)
             clear HO292
             clear HO295
             clear HO300
             clear HO303
             clear HO308
             clear HO311
             clear HO316
             clear HO319
             clear HO328
             clear HO332
             clear BK285
             clear BK286
             clear BK297
             clear BK305
             clear BK313
             clear BK321
             clear HB
             have HO292 := n0_
             have HO295 := n1_
             have HO300 := n2_
             have HO303 := n3_
             have HO308 := n4_
             have HO311 := n5_
             have HO316 := n6_
             have HO319 := n7_
             have HO328 := n8_
             have HO332 := n9_
             have BK285 := n10_
             have BK286 := n11_
             have BK297 := n12_
             have BK305 := n13_
             have BK313 := n14_
             have BK321 := n15_
             have HB := n16_
             clear n0_ n1_ n2_ n3_ n4_ n5_ n6_ n7_ n8_ n9_ n10_ n11_ n12_ n13_ n14_ n15_ n16_
             (try clear hb)
             (try clear hb2)
             (try clear hk)
             (try clear hi)
             refine hK.out _ _ ⟨(bc BK285.out 0).trans rfl, (bc BK285.out 1).trans rfl, (bc BK297.out 0).trans rfl, (bc BK297.out 1).trans rfl, (bc BK305.out 0).trans rfl, (bc BK305.out 1).trans rfl, (bc BK313.out 0).trans rfl, (bc BK313.out 1).trans rfl, (bc BK321.out 0).trans rfl, (bc BK321.out 1).trans rfl⟩ (fun hHeld => ?_)
             clear hK K
             refine norm_ (a' := ?_) ?_ ?_
             rotate_left
             ·
              show Act.put _ (some 104) _ = _
              simp only [Act.put, sI, sZ, sS, i64_w, i32_w]
              rfl
             refine Own.pr_ 12 (some 105) q13_13 HT_ (h := ?_)
             refine Own.pr_ 13 (some 106) q13_14 HT_ (h := ?_)
             refine Own.pr_ 14 (some 107) q13_15 HT_ (h := ?_)
             refine Own.pr_ 15 (some 108) q13_16 HT_ (h := ?_)
             refine Own.pr_ 16 (some 109) q13_17 HT_ (h := ?_)
             refine Own.pr_ 17 (some 110) q13_18 HT_ (h := ?_)
             refine Own.pr_ 18 (some 111) q13_19 HT_ (h := ?_)
             refine Own.tk_ 19 (some 112) q13_20 HT_ HW_ hHeld (hy := by rintro w' ⟨s0, s1, s2, s3, s4, s5, s6, s7, s8, s9⟩; go_simp; with_reducible rfl) (h := ?_)
             refine Own.tk_ 20 (some 113) q13_21 HT_ HW_ hHeld (hy := by rintro w' ⟨s0, s1, s2, s3, s4, s5, s6, s7, s8, s9⟩; go_simp; with_reducible rfl) (h := ?_)
             refine one_ (i := 21) (N := some 114) q13_22 rfl rfl (one_of HT_.out (by kernel_rfl)) (by decide) (fun K hK => ?_)
             refine goes_ Try.func21 (by kernel_rfl) rfl #[.agg #[.slice Ao72 t306.length co72, .slice Ao78 t309.length co78], .agg #[.slice Ao84 t314.length co84, .slice Ao91 t317.length co91]] (by rfl) rfl rfl (by (try simp only [List.map_toArray, List.map_cons, List.map_nil]); first | done | rfl | (simp only [List.length_drop, List.length_take]; rfl)) ?_
             with_reducible refine (shuttlecockref06_Same.calls kj2 _ _ t306 _ _ t309 _ _ t314 _ _ t317 true _ ?side1 ?side2 ?side3 ?side4 ?side5 ?side6 ?side7 ?side8 A40.out).mono ?_
             (case side1 => repeat (first | exact (Kd.R_reads' HO308.out).2.2 | (with_reducible refine Kd.C_alloc ?_ _) | (with_reducible refine Kd.C_drewN ?_ _) | (with_reducible refine Kd.C_drew ?_)))
             (case side2 => exact (Kd.R_reads' HO308.out).2.1)
             (case side3 => repeat (first | exact (Kd.S_reads' HO311.out).2.2 | (with_reducible refine Kd.C_alloc ?_ _) | (with_reducible refine Kd.C_drewN ?_ _) | (with_reducible refine Kd.C_drew ?_)))
             (case side4 => exact (Kd.S_reads' HO311.out).2.1)
             (case side5 => repeat (first | exact (Kd.V_reads' HO316.out).2.2 | (with_reducible refine Kd.C_alloc ?_ _) | (with_reducible refine Kd.C_drewN ?_ _) | (with_reducible refine Kd.C_drew ?_)))
             (case side6 => exact (Kd.V_reads' HO316.out).2.1)
             (case side7 => repeat (first | exact (Kd.V_reads' HO319.out).2.2 | (with_reducible refine Kd.C_alloc ?_ _) | (with_reducible refine Kd.C_drewN ?_ _) | (with_reducible refine Kd.C_drew ?_)))
             (case side8 => exact (Kd.V_reads' HO319.out).2.1)
             rintro e w109 ⟨rfl, hb⟩
             refine ⟨_, rfl, ?_⟩
             have n0_ := Am (Kd.R_below (by (with_reducible repeat (first | apply Kd.R_alloc | apply Kd.R_drewN | apply Kd.R_drew)); exact HO292.out) hb)
             have n1_ := Am (Kd.S_below (by (with_reducible repeat (first | apply Kd.S_alloc | apply Kd.S_drewN | apply Kd.S_drew)); exact HO295.out) hb)
             have n2_ := Am (Kd.V_below (by (with_reducible repeat (first | apply Kd.V_alloc | apply Kd.V_drewN | apply Kd.V_drew)); exact HO300.out) hb)
             have n3_ := Am (Kd.V_below (by (with_reducible repeat (first | apply Kd.V_alloc | apply Kd.V_drewN | apply Kd.V_drew)); exact HO303.out) hb)
             have n4_ := Am (Kd.R_below (by (with_reducible repeat (first | apply Kd.R_alloc | apply Kd.R_drewN | apply Kd.R_drew)); exact HO308.out) hb)
             have n5_ := Am (Kd.S_below (by (with_reducible repeat (first | apply Kd.S_alloc | apply Kd.S_drewN | apply Kd.S_drew)); exact HO311.out) hb)
             have n6_ := Am (Kd.V_below (by (with_reducible repeat (first | apply Kd.V_alloc | apply Kd.V_drewN | apply Kd.V_drew)); exact HO316.out) hb)
             have n7_ := Am (Kd.V_below (by (with_reducible repeat (first | apply Kd.V_alloc | apply Kd.V_drewN | apply Kd.V_drew)); exact HO319.out) hb)
             have n8_ := Am (Kd.R_below (by (with_reducible repeat (first | apply Kd.R_alloc | apply Kd.R_drewN | apply Kd.R_drew)); exact HO328.out) hb)
             have n9_ := Am (Kd.R_below (by (with_reducible repeat (first | apply Kd.R_alloc | apply Kd.R_drewN | apply Kd.R_drew)); exact HO332.out) hb)
             have n10_ := Am (blk_below (g := gb285) (o := .cells #[.slice A0_0 l0_0.length c0_0, .slice A0_1 l0_1.length c0_1] 25 (0, 0)) (by (with_reducible repeat (first | refine bn ?_ _ | refine bd ?_ | refine ba ?_ _)); exact BK285.out) hb)
             have n11_ := Am (blk_below (g := gb286) (o := .cells #[.string a1_0, .slice A1_1 l1_1.length c1_1, .int .i64 a1_2] 28 (0, 0)) (by (with_reducible repeat (first | refine bn ?_ _ | refine bd ?_ | refine ba ?_ _)); exact BK286.out) hb)
             have n12_ := Am (blk_below (g := gb297) (o := .cells #[.slice Ao52 t290.length co52, .slice Ao56 t293.length co56] 25 (0, 0)) (by (with_reducible repeat (first | refine bn ?_ _ | refine bd ?_ | refine ba ?_ _)); exact BK297.out) hb)
             have n13_ := Am (blk_below (g := gb305) (o := .cells #[.slice Ao62 t298.length co62, .slice Ao67 t301.length co67] 25 (0, 0)) (by (with_reducible repeat (first | refine bn ?_ _ | refine bd ?_ | refine ba ?_ _)); exact BK305.out) hb)
             have n14_ := Am (blk_below (g := gb313) (o := .cells #[.slice Ao72 t306.length co72, .slice Ao78 t309.length co78] 25 (0, 0)) (by (with_reducible repeat (first | refine bn ?_ _ | refine bd ?_ | refine ba ?_ _)); exact BK313.out) hb)
             have n15_ := Am (blk_below (g := gb321) (o := .cells #[.slice Ao84 t314.length co84, .slice Ao91 t317.length co91] 25 (0, 0)) (by (with_reducible repeat (first | refine bn ?_ _ | refine bd ?_ | refine ba ?_ _)); exact BK321.out) hb)
             have n16_ := Am (below_step (by repeat (first | (with_reducible first | exact HB.out | apply bl | apply pN | apply b1 | refine bs ?_ GE285.out | refine bs ?_ GE286.out | refine bs ?_ GE297.out | refine bs ?_ GE305.out | refine bs ?_ GE313.out | refine bs ?_ GE321.out) | exact HB.out | exact HBo.out)) hb)
             clear HO292
             clear HO295
             clear HO300
             clear HO303
             clear HO308
             clear HO311
             clear HO316
             clear HO319
             clear HO328
             clear HO332
             clear BK285
             clear BK286
             clear BK297
             clear BK305
             clear BK313
             clear BK321
             clear HB
             have HO292 := n0_
             have HO295 := n1_
             have HO300 := n2_
             have HO303 := n3_
             have HO308 := n4_
             have HO311 := n5_
             have HO316 := n6_
             have HO319 := n7_
             have HO328 := n8_
             have HO332 := n9_
             have BK285 := n10_
             have BK286 := n11_
             have BK297 := n12_
             have BK305 := n13_
             have BK313 := n14_
             have BK321 := n15_
             have HB := n16_
             clear n0_ n1_ n2_ n3_ n4_ n5_ n6_ n7_ n8_ n9_ n10_ n11_ n12_ n13_ n14_ n15_ n16_
             (try clear hb)
             (try clear hb2)
             (try clear hk)
             (try clear hi)
             obtain ⟨Ao110, co110, eo110⟩ := Kd.R_slice HO328.out
             (first | subst eo110 | (injection eo110 with f1_ f2_ f3_; have f4_ := f1_.symm; have f5_ := f3_.symm; clear f1_ f2_ f3_; subst f4_; subst f5_))
             obtain ⟨Ao111, co111, eo111⟩ := Kd.R_slice HO332.out
             (first | subst eo111 | (injection eo111 with f1_ f2_ f3_; have f4_ := f1_.symm; have f5_ := f3_.symm; clear f1_ f2_ f3_; subst f4_; subst f5_))
             refine hK.out _ _ ⟨(bc BK285.out 0).trans rfl, (bc BK285.out 1).trans rfl, (bc BK297.out 0).trans rfl, (bc BK297.out 1).trans rfl, (bc BK305.out 0).trans rfl, (bc BK305.out 1).trans rfl, (bc BK313.out 0).trans rfl, (bc BK313.out 1).trans rfl, (bc BK321.out 0).trans rfl, (bc BK321.out 1).trans rfl⟩ (fun hHeld => ?_)
             clear hK K
             refine norm_ (a' := ?_) ?_ ?_
             rotate_left
             ·
              show Act.put _ (some 114) _ = _
              simp only [Act.put, sI, sZ, sS, i64_w, i32_w]
              rfl
             refine Own.pr_ 22 (some 115) q13_23 HT_ (h := ?_)
             refine Own.pr_ 23 (some 116) q13_24 HT_ (h := ?_)
             refine Own.pr_ 24 (some 117) q13_25 HT_ (h := ?_)
             refine Own.pr_ 25 (some 118) q13_26 HT_ (h := ?_)
             refine Own.pr_ 26 (some 119) q13_27 HT_ (h := ?_)
             refine Own.pr_ 27 (some 120) q13_28 HT_ (h := ?_)
             refine Own.pr_ 28 (some 121) q13_29 HT_ (h := ?_)
             refine Own.pr_ 29 (some 122) q13_30 HT_ (h := ?_)
             refine Own.pr_ 30 (some 123) q13_31 HT_ (h := ?_)
             refine Own.pr_ 31 (some 124) q13_32 HT_ (h := ?_)
             refine Own.pr_ 32 (some 125) q13_33 HT_ (h := ?_)
             refine Own.pr_ 33 (some 126) q13_34 HT_ (h := ?_)
             refine Own.pr_ 34 (some 127) q13_35 HT_ (h := ?_)
             refine Own.pr_ 35 (some 128) q13_36 HT_ (h := ?_)
             refine Own.pr_ 36 (some 129) q13_37 HT_ (h := ?_)
             refine Own.pr_ 37 (some 130) q13_38 HT_ (h := ?_)
             refine Own.pr_ 38 (some 131) q13_39 HT_ (h := ?_)
             refine Own.pr_ 39 (some 132) q13_40 HT_ (h := ?_)
             refine Own.pr_ 40 (some 133) q13_41 HT_ (h := ?_)
             refine one_ (i := 41) (N := some 134) q13_42 rfl rfl (one_of HT_.out (by kernel_rfl)) (by decide) (fun K hK => ?_)
             refine goes_ Try.func22 (by kernel_rfl) rfl #[.slice Ao110 t326.length co110, .slice Ao111 t330.length co111] (by rfl) rfl rfl (by (try simp only [List.map_toArray, List.map_cons, List.map_nil]); first | done | rfl | (simp only [List.length_drop, List.length_take]; rfl)) ?_
             with_reducible refine (shuttlecockref06_SameFrames.calls kj2 _ _ t326 _ _ t330 true _ ?side1 ?side2 ?side3 ?side4 A45.out).mono ?_
             (case side1 => repeat (first | exact (Kd.R_reads' HO328.out).2.2 | (with_reducible refine Kd.C_alloc ?_ _) | (with_reducible refine Kd.C_drewN ?_ _) | (with_reducible refine Kd.C_drew ?_)))
             (case side2 => exact (Kd.R_reads' HO328.out).2.1)
             (case side3 => repeat (first | exact (Kd.R_reads' HO332.out).2.2 | (with_reducible refine Kd.C_alloc ?_ _) | (with_reducible refine Kd.C_drewN ?_ _) | (with_reducible refine Kd.C_drew ?_)))
             (case side4 => exact (Kd.R_reads' HO332.out).2.1)
             rintro e w' ⟨rfl, ⟨nd, rfl⟩⟩
             refine ⟨_, rfl, ?_⟩
             refine hK.out _ _ ⟨(bc BK285.out 0).trans rfl, (bc BK285.out 1).trans rfl, (bc BK297.out 0).trans rfl, (bc BK297.out 1).trans rfl, (bc BK305.out 0).trans rfl, (bc BK305.out 1).trans rfl, (bc BK313.out 0).trans rfl, (bc BK313.out 1).trans rfl, (bc BK321.out 0).trans rfl, (bc BK321.out 1).trans rfl⟩ (fun hHeld => ?_)
             clear hK K
             refine norm_ (a' := ?_) ?_ ?_
             rotate_left
             ·
              show Act.put _ (some 134) _ = _
              simp only [Act.put, sI, sZ, sS, i64_w, i32_w]
              rfl
             refine Own.pr_ 42 (some 135) q13_43 HT_ (h := ?_)
             refine Own.pr_ 43 (some 136) q13_44 HT_ (h := ?_)
             refine Own.pr_ 44 (some 137) q13_45 HT_ (h := ?_)
             refine Own.pr_ 45 (some 138) q13_46 HT_ (h := ?_)
             refine Own.pr_ 46 (some 139) q13_47 HT_ (h := ?_)
             refine Own.pr_ 47 (some 140) q13_48 HT_ (h := ?_)
             refine Own.pr_ 48 (some 4) q13_49 HT_ (h := ?_)
             refine done_ (done_of HT_.out (by kernel_rfl)) ?_
             try go_wp2
             go_ret
             exact ⟨by first | rfl | (simp [errW_none, errW_some] <;> rfl) | (simp [*, errW_none, errW_some] <;> rfl) | (simp [Aid.ne_nil, Aid.eq_nil, errW_none, errW_some]; done), by repeat (first | (with_reducible first | exact HB.out | apply bl | apply pN | apply b1 | refine bs ?_ GE285.out | refine bs ?_ GE286.out | refine bs ?_ GE297.out | refine bs ?_ GE305.out | refine bs ?_ GE313.out | refine bs ?_ GE321.out) | exact HB.out | exact HBo.out)⟩
            ·
             replace c46 := Bool.eq_false_iff.mpr c46
             subst c46
             have H1 : (none) = some r := by rw [if_neg (show ¬ (false = true) by decide)] at H; exact H
             clear H
             have H := H1
             clear H1
             exact absurd H (by simp)
           ·
            rw [if_neg c44] at H
            have c44b0 : (t323 == t325) = false := by simpa using c44
            (try (have c44b1 : decide (t323 = t325) = false := by simpa using c44))
            (try (have c44b2 : (t323 == t325) = false := by simpa using c44))
            (try (have c44b3 : ¬ (t323 = t325) := by simpa using c44))
            clear c44
            exact absurd H (by simp)
          ·
           rw [if_neg c43] at H
           have c43b0 : (t322.toList == t324.toList) = false := beq_eq_false_iff_ne.mpr c43
           have c43b1 : (t322.toList != t324.toList) = true := bne_iff_ne.mpr c43
           exact absurd H (by simp)
         ·
          rw [if_neg c42] at H
          have c42b0 : (t312 == t320) = false := beq_eq_false_iff_ne.mpr c42
          have c42b1 : (t312 != t320) = true := bne_iff_ne.mpr c42
          exact absurd H (by simp)
        ·
         replace c41 := Bool.eq_false_iff.mpr c41
         subst c41
         have H1 : (none) = some r := by rw [if_neg (show ¬ (false = true) by decide)] at H; exact H
         clear H
         have H := H1
         clear H1
         exact absurd H (by simp)
       ·
        rw [if_neg c39] at H
        have c39b0 : (t296 == t304) = false := beq_eq_false_iff_ne.mpr c39
        have c39b1 : (t296 != t304) = true := bne_iff_ne.mpr c39
        exact absurd H (by simp)
      ·
       replace c38 := Bool.eq_false_iff.mpr c38
       subst c38
       have H1 : (none) = some r := by rw [if_neg (show ¬ (false = true) by decide)] at H; exact H
       clear H
       have H := H1
       clear H1
       exact absurd H (by simp)
     ·
      rw [if_neg c36] at H
      have c36b0 : (t335 == t336) = false := by simpa using c36
      (try (have c36b1 : decide (t335 = t336) = false := by simpa using c36))
      (try (have c36b2 : (t335 == t336) = false := by simpa using c36))
      (try (have c36b3 : ¬ (t335 = t336) := by simpa using c36))
      clear c36
      exact absurd H (by simp)
    ·
     replace c33 := Bool.eq_false_iff.mpr c33
     subst c33
     have H1 : (none) = some r := by rw [if_neg (show ¬ (false = true) by decide)] at H; exact H
     clear H
     have H := H1
     clear H1
     exact absurd H (by simp)

/-- THE ONE PURE STATEMENT of shuttlecocklaw06_InternTells (own row). -/
def shuttlecocklaw06_InternTells.Pure : Prop := ∀ (y0 : S25) (y1 : S28), (((∀ e5 ∈ y0.f0, e5.size ≤ 140737488351232) ∧ y0.f0.length ≤ 140737488351232) ∧ ((∀ e5 ∈ y0.f1, ((∀ e3 ∈ e5, ((Lit.int .i64 e3.f0).wf = true ∧ (Lit.int .i64 e3.f1).wf = true)) ∧ e5.length ≤ 140737488351232)) ∧ y0.f1.length ≤ 140737488351232)) → (y1.f0.size ≤ 140737488351232 ∧ ((∀ e5 ∈ y1.f1, (e5.f0.size ≤ 140737488351232 ∧ (Lit.int .i64 e5.f1).wf = true)) ∧ y1.f1.length ≤ 140737488351232) ∧ (Lit.int .i64 y1.f2).wf = true) → ∃ k, shuttlecocklaw06_InternTells.f k y0.f0 y0.f1 y1.f0 y1.f1 y1.f2 = some true

end Go.Proofs.Ytijjfomnidckdaa.Q
