-- printed by a program of this session (NOTES: hprint); not the kit's print
-- minified
-- halved
import Derived.Test.YtfcombimnmkoeaaAl
import Derived.Test.YtfcombimnmkoeaaQx0
import Derived.Test.YtfcombimnmkoeaaQx1
import Derived.Test.YtfcombimnmkoeaaQx2
import Derived.Test.YtfcombimnmkoeaaQx3
import Derived.Test.YtfcombimnmkoeaaQx23
import Derived.Test.YtfcombimnmkoeaaQx29
namespace Go.Proofs.Ytfcombimnmkoeaa.Q
open Go.RowKit Go.Proofs.YtfcombimnmkoeaaW.PrintWords Go.Proofs.YtfcombimnmkoeaaW.PrintLast Go.Proofs.YtfcombimnmkoeaaW.PrintMore
attribute [local go_sem] max2_int min2_int max_two min_two max_three min_three max_four min_four   -- for this text's walks alone
set_option linter.unusedVariables false
set_option linter.unusedSimpArgs false

attribute [local go_sem high] eqA23
def q17_0 : Array Bool := let o := true; let z := false; #[z,z,z,z,z,z,z,z]
def q17_1 : Array Bool := let o := true; let z := false; #[o,z,z,z,z,z,z,z]
def q17_2 : Array Bool := let o := true; let z := false; #[o,z,o,z,z,z,z,z]
def q17_3 : Array Bool := let o := true; let z := false; #[o,o,o,z,z,z,z,z]
def q17_4 : Array Bool := let o := true; let z := false; #[o,o,o,o,z,z,z,z]
def q17_5 : Array Bool := let o := true; let z := false; #[o,o,o,o,o,o,z,z]
def q17_6 : Array Bool := let o := true; let z := false; #[o,o,o,o,o,z,z,z]
def q17_7 : Array Bool := let o := true; let z := false; #[o,o,o,o,z,o,z,z]
def q17_8 : Array Bool := let o := true; let z := false; #[o,o,o,o,o,o,o,z]
def q17_9 : Array Bool := let o := true; let z := false; #[o,o,o,o,o,o,o,o]
def q17_10 : Array Bool := let o := true; let z := false; #[z,z,z,z,z,z,z,z,z,z,z,z,z,z,z,z,z,z,z,z,z,z,z,z]
def q17_11 : Array Bool := let o := true; let z := false; #[o,z,z,z,z,z,z,z,z,z,z,z,z,z,z,z,z,z,z,z,z,z,z,z]
def q17_12 : Array Bool := let o := true; let z := false; #[o,o,z,z,z,z,z,z,z,z,z,z,z,z,z,z,z,z,z,z,z,z,z,z]
def q17_13 : Array Bool := let o := true; let z := false; #[o,o,o,z,z,z,z,z,z,z,z,z,z,z,z,z,z,z,z,z,z,z,z,z]
def q17_14 : Array Bool := let o := true; let z := false; #[o,o,o,o,z,z,z,z,z,z,z,z,z,z,z,z,z,z,z,z,z,z,z,z]
def q17_15 : Array Bool := let o := true; let z := false; #[o,o,o,o,o,z,z,z,z,z,z,z,z,z,z,z,z,z,z,z,z,z,z,z]
def q17_16 : Array Bool := let o := true; let z := false; #[o,o,o,o,o,o,z,z,z,z,z,z,z,z,z,z,z,z,z,z,z,z,z,z]
def q17_17 : Array Bool := let o := true; let z := false; #[o,o,o,o,o,o,o,z,z,z,z,z,z,z,z,z,z,z,z,z,z,z,z,z]
def q17_18 : Array Bool := let o := true; let z := false; #[o,o,o,o,o,o,o,o,z,z,z,z,z,z,z,z,z,z,z,z,z,z,z,z]
def q17_19 : Array Bool := let o := true; let z := false; #[o,o,o,o,o,o,o,o,o,z,z,z,z,z,z,z,z,z,z,z,z,z,z,z]
def q17_20 : Array Bool := let o := true; let z := false; #[o,o,o,o,o,o,o,o,o,o,z,z,z,z,z,z,z,z,z,z,z,z,z,z]
def q17_21 : Array Bool := let o := true; let z := false; #[o,o,o,o,o,o,o,o,o,o,o,z,z,z,z,z,z,z,z,z,z,z,z,z]
def q17_22 : Array Bool := let o := true; let z := false; #[o,o,o,o,o,o,o,o,o,o,o,o,z,z,z,z,z,z,z,z,z,z,z,z]
def q17_23 : Array Bool := let o := true; let z := false; #[o,o,o,o,o,o,o,o,o,o,o,o,o,z,z,z,z,z,z,z,z,z,z,z]
def q17_24 : Array Bool := let o := true; let z := false; #[o,o,o,o,o,o,o,o,o,o,o,o,o,o,o,o,o,o,o,o,o,o,z,z]
def q17_25 : Array Bool := let o := true; let z := false; #[o,o,o,o,o,o,o,o,o,o,o,o,o,o,o,o,o,o,o,o,o,o,o,z]
def q17_26 : Array Bool := let o := true; let z := false; #[o,o,o,o,o,o,o,o,o,o,o,o,o,o,o,o,o,o,o,o,o,o,o,o]
def q17_27 : Array Bool := let o := true; let z := false; #[o,o,o,o,o,o,o,o,o,o,o,o,o,z,z,o,z,z,z,z,z,z,z,z]
def q17_28 : Array Bool := let o := true; let z := false; #[o,o,o,o,o,o,o,o,o,o,o,o,o,z,z,o,o,z,z,z,z,z,z,z]
def q17_29 : Array Bool := let o := true; let z := false; #[o,o,o,o,o,o,o,o,o,o,o,o,o,z,z,o,o,o,z,z,z,z,z,z]
def q17_30 : Array Bool := let o := true; let z := false; #[o,o,o,o,o,o,o,o,o,o,o,o,o,z,z,o,o,o,o,z,z,z,z,z]
def q17_31 : Array Bool := let o := true; let z := false; #[o,o,o,o,o,o,o,o,o,o,o,o,o,z,z,o,o,o,o,o,z,z,z,z]
def q17_32 : Array Bool := let o := true; let z := false; #[o,o,o,o,o,o,o,o,o,o,o,o,o,z,z,o,o,o,o,o,o,z,z,z]
def q17_33 : Array Bool := let o := true; let z := false; #[o,o,o,o,o,o,o,o,o,o,o,o,o,o,z,o,o,o,o,o,o,z,z,z]
def q17_34 : Array Bool := let o := true; let z := false; #[o,o,o,o,o,o,o,o,o,o,o,o,o,o,o,o,o,o,o,o,o,z,z,z]
/-! ### shuttlecocklaw05_BatchBack: function 4 -/
mutual
def shuttlecocklaw05_BatchBack.j0 : Nat → ByteArray → Int → Bool → Int → Int → Int → ByteArray → Int → Int → Int → ByteArray → Option (Bool)
 | 0, _, _, _, _, _, _, _, _, _, _, _ => none
 | k + 1, x1, x2, x44, x557000, x557001, x557002, x557003, x558000, x558001, x558002, x558003 => if x44 = true then ((shuttlecocklaw05_fixed.f k).bind fun t559 => (some t559)) else ((batch_Decode.f k x1 0).bind fun bt560 => (if bt560.2.2.2.2.2 = 0 then ((batch_May.f bt560.1 bt560.2.1 bt560.2.2.1 bt560.2.2.2.1).bind fun t567 => (if t567 = true then (if bt560.2.2.2.2.1 > (x1.size : Int) then (shuttlecocklaw05_BatchBack.j1 k x2 true x557000 x557001 x557002 x557003 x558000 x558001 x558002 x558003) else ((batch_Encode.f k bt560.1 bt560.2.1 bt560.2.2.1 bt560.2.2.2.1).bind fun t568 => (if 0 ≤ (mn bt560.2.2.2.2.1 (x1.size : Int)) then (if (mn bt560.2.2.2.2.1 (x1.size : Int)) ≤ (x1.size : Int) then (shuttlecocklaw05_BatchBack.j1 k x2 (t568.toList != (x1.extract 0 ((mn bt560.2.2.2.2.1 (x1.size : Int)) : Int).toNat).toList) x557000 x557001 x557002 x557003 x558000 x558001 x558002 x558003) else (none)) else (none)))) else (shuttlecocklaw05_BatchBack.j1 k x2 true x557000 x557001 x557002 x557003 x558000 x558001 x558002 x558003))) else (shuttlecocklaw05_BatchBack.j1 k x2 false x557000 x557001 x557002 x557003 x558000 x558001 x558002 x558003)))
def shuttlecocklaw05_BatchBack.j1 : Nat → Int → Bool → Int → Int → Int → ByteArray → Int → Int → Int → ByteArray → Option (Bool)
 | 0, _, _, _, _, _, _, _, _, _, _ => none
 | k + 1, x2, x75, x557000, x557001, x557002, x557003, x558000, x558001, x558002, x558003 => if x75 = true then (none) else ((batch_May.f x557000 x557001 x557002 x557003).bind fun t569 => (if t569 = true then ((batch_May.f x558000 x558001 x558002 x558003).bind fun t570 => (shuttlecocklaw05_BatchBack.j2 k x2 (!t570) x557000 x557001 x557002 x557003 x558000 x558001 x558002 x558003)) else (shuttlecocklaw05_BatchBack.j2 k x2 true x557000 x557001 x557002 x557003 x558000 x558001 x558002 x558003)))
def shuttlecocklaw05_BatchBack.j2 : Nat → Int → Bool → Int → Int → Int → ByteArray → Int → Int → Int → ByteArray → Option (Bool)
 | 0, _, _, _, _, _, _, _, _, _, _ => none
 | k + 1, x2, x83, x557000, x557001, x557002, x557003, x558000, x558001, x558002, x558003 => if x83 = true then (some true) else ((batch_Encode.f k x557000 x557001 x557002 x557003).bind fun t571 => ((batch_Encode.f k x558000 x558001 x558002 x558003).bind fun t572 => (if t571.size + t572.size ≤ 9223372036854775807 then ((batch_Decode.f k (t571 ++ t572) 0).bind fun bt573 => ((batch_Encode.f k x558000 x558001 x558002 x558003).bind fun t580 => (if t571.size + t580.size ≤ 9223372036854775807 then ((batch_Decode.f k (t571 ++ t580) bt573.2.2.2.2.1).bind fun bt581 => (if bt573.2.2.2.2.2 = 0 then (if bt581.2.2.2.2.2 = 0 then (if (!(bt573.1 == x557000) || (!(bt573.2.1 == x557001) || (!(bt573.2.2.1 == x557002) || (!(bt573.2.2.2.1.toList == x557003.toList))))) = true then (shuttlecocklaw05_BatchBack.j3 k x2 t571 true) else (if (!(bt581.1 == x558000) || (!(bt581.2.1 == x558001) || (!(bt581.2.2.1 == x558002) || (!(bt581.2.2.2.1.toList == x558003.toList))))) = true then (shuttlecocklaw05_BatchBack.j3 k x2 t571 true) else (if bt573.2.2.2.2.1 = (t571.size : Int) then ((batch_Encode.f k x558000 x558001 x558002 x558003).bind fun t588 => (shuttlecocklaw05_BatchBack.j3 k x2 t571 (bt581.2.2.2.2.1 != (wrap64 (bt573.2.2.2.2.1 + (t588.size : Int)))))) else (shuttlecocklaw05_BatchBack.j3 k x2 t571 true)))) else (shuttlecocklaw05_BatchBack.j3 k x2 t571 true)) else (shuttlecocklaw05_BatchBack.j3 k x2 t571 true))) else (none)))) else (none))))
def shuttlecocklaw05_BatchBack.j3 : Nat → Int → ByteArray → Bool → Option (Bool)
 | 0, _, _, _ => none
 | k + 1, x2, x12, x135 => if x135 = true then (none) else (if x2 < 0 then (some true) else (if x2 ≥ (x12.size : Int) then (some true) else (if 0 ≤ x2 then (if x2 ≤ (x12.size : Int) then ((batch_Decode.f k (x12.extract 0 (x2 : Int).toNat) 0).bind fun bt589 => (some (bt589.2.2.2.2.2 == 10))) else (none)) else (none))))
end
def shuttlecocklaw05_BatchBack.f (k : Nat) (a0_0 : Int) (a0_1 : Int) (a0_2 : Int) (a0_3 : ByteArray) (a0_4 : Int) (a0_5 : Int) (a0_6 : Int) (a0_7 : ByteArray) (a1 : ByteArray) (a2 : Int) : Option (Bool) := (shuttlecocklaw05_fixed.f k).bind fun t558 => (if t558 = true then (if (a0_3.size : Int) > 3000 then (shuttlecocklaw05_BatchBack.j0 k a1 a2 true a0_0 a0_1 a0_2 a0_3 a0_4 a0_5 a0_6 a0_7) else (if (a0_7.size : Int) > 3000 then (shuttlecocklaw05_BatchBack.j0 k a1 a2 true a0_0 a0_1 a0_2 a0_3 a0_4 a0_5 a0_6 a0_7) else (shuttlecocklaw05_BatchBack.j0 k a1 a2 (decide ((a1.size : Int) > 5000)) a0_0 a0_1 a0_2 a0_3 a0_4 a0_5 a0_6 a0_7))) else (shuttlecocklaw05_BatchBack.j0 k a1 a2 true a0_0 a0_1 a0_2 a0_3 a0_4 a0_5 a0_6 a0_7))
theorem shuttlecocklaw05_BatchBack.mono_l : ∀ k, (∀ y0 y1 y2 y3 y4 y5 y6 y7 y8 y9 y10, LeO (shuttlecocklaw05_BatchBack.j0 k y0 y1 y2 y3 y4 y5 y6 y7 y8 y9 y10) (shuttlecocklaw05_BatchBack.j0 (k + 1) y0 y1 y2 y3 y4 y5 y6 y7 y8 y9 y10)) ∧ (∀ y0 y1 y2 y3 y4 y5 y6 y7 y8 y9, LeO (shuttlecocklaw05_BatchBack.j1 k y0 y1 y2 y3 y4 y5 y6 y7 y8 y9) (shuttlecocklaw05_BatchBack.j1 (k + 1) y0 y1 y2 y3 y4 y5 y6 y7 y8 y9)) ∧ (∀ y0 y1 y2 y3 y4 y5 y6 y7 y8 y9, LeO (shuttlecocklaw05_BatchBack.j2 k y0 y1 y2 y3 y4 y5 y6 y7 y8 y9) (shuttlecocklaw05_BatchBack.j2 (k + 1) y0 y1 y2 y3 y4 y5 y6 y7 y8 y9)) ∧ (∀ y0 y1 y2, LeO (shuttlecocklaw05_BatchBack.j3 k y0 y1 y2) (shuttlecocklaw05_BatchBack.j3 (k + 1) y0 y1 y2))
 | 0 => ⟨fun _ _ _ _ _ _ _ _ _ _ _ r h => by simp [shuttlecocklaw05_BatchBack.j0] at h, fun _ _ _ _ _ _ _ _ _ _ r h => by simp [shuttlecocklaw05_BatchBack.j1] at h, fun _ _ _ _ _ _ _ _ _ _ r h => by simp [shuttlecocklaw05_BatchBack.j2] at h, fun _ _ _ r h => by simp [shuttlecocklaw05_BatchBack.j3] at h⟩
 | k + 1 => by
  obtain ⟨ih0, ih1, ih2, ih3⟩ := shuttlecocklaw05_BatchBack.mono_l k
  refine ⟨?_, ?_, ?_, ?_⟩
  ·
   intro y0 y1 y2 y3 y4 y5 y6 y7 y8 y9 y10
   unfold shuttlecocklaw05_BatchBack.j0
   repeat' first
   | (with_reducible exact ih0 _ _ _ _ _ _ _ _ _ _ _)
   | (with_reducible exact ih1 _ _ _ _ _ _ _ _ _ _)
   | (with_reducible exact ih2 _ _ _ _ _ _ _ _ _ _)
   | (with_reducible exact ih3 _ _ _)
   | (with_reducible exact batch_Decode.mono _ _ _)
   | (with_reducible exact batch_Encode.mono _ _ _ _ _)
   | (with_reducible exact shuttlecocklaw05_fixed.mono _)
   | (with_reducible exact LeO.refl _)
   | (with_reducible exact LeO.none _)
   | (with_reducible refine LeO.ite ?_ ?_)
   | (with_reducible refine LeO.bind ?_ (fun _ => ?_))
   | exact ih0 _ _ _ _ _ _ _ _ _ _ _
   | exact ih1 _ _ _ _ _ _ _ _ _ _
   | exact ih2 _ _ _ _ _ _ _ _ _ _
   | exact ih3 _ _ _
   | exact batch_Decode.mono _ _ _
   | exact batch_Encode.mono _ _ _ _ _
   | exact shuttlecocklaw05_fixed.mono _
   | exact LeO.none _
   | refine LeO.ite ?_ ?_
   | refine LeO.bind ?_ (fun _ => ?_)
  ·
   intro y0 y1 y2 y3 y4 y5 y6 y7 y8 y9
   unfold shuttlecocklaw05_BatchBack.j1
   repeat' first
   | (with_reducible exact ih0 _ _ _ _ _ _ _ _ _ _ _)
   | (with_reducible exact ih1 _ _ _ _ _ _ _ _ _ _)
   | (with_reducible exact ih2 _ _ _ _ _ _ _ _ _ _)
   | (with_reducible exact ih3 _ _ _)
   | (with_reducible exact batch_Decode.mono _ _ _)
   | (with_reducible exact batch_Encode.mono _ _ _ _ _)
   | (with_reducible exact shuttlecocklaw05_fixed.mono _)
   | (with_reducible exact LeO.refl _)
   | (with_reducible exact LeO.none _)
   | (with_reducible refine LeO.ite ?_ ?_)
   | (with_reducible refine LeO.bind ?_ (fun _ => ?_))
   | exact ih0 _ _ _ _ _ _ _ _ _ _ _
   | exact ih1 _ _ _ _ _ _ _ _ _ _
   | exact ih2 _ _ _ _ _ _ _ _ _ _
   | exact ih3 _ _ _
   | exact batch_Decode.mono _ _ _
   | exact batch_Encode.mono _ _ _ _ _
   | exact shuttlecocklaw05_fixed.mono _
   | exact LeO.none _
   | refine LeO.ite ?_ ?_
   | refine LeO.bind ?_ (fun _ => ?_)
  ·
   intro y0 y1 y2 y3 y4 y5 y6 y7 y8 y9
   unfold shuttlecocklaw05_BatchBack.j2
   repeat' first
   | (with_reducible exact ih0 _ _ _ _ _ _ _ _ _ _ _)
   | (with_reducible exact ih1 _ _ _ _ _ _ _ _ _ _)
   | (with_reducible exact ih2 _ _ _ _ _ _ _ _ _ _)
   | (with_reducible exact ih3 _ _ _)
   | (with_reducible exact batch_Decode.mono _ _ _)
   | (with_reducible exact batch_Encode.mono _ _ _ _ _)
   | (with_reducible exact shuttlecocklaw05_fixed.mono _)
   | (with_reducible exact LeO.refl _)
   | (with_reducible exact LeO.none _)
   | (with_reducible refine LeO.ite ?_ ?_)
   | (with_reducible refine LeO.bind ?_ (fun _ => ?_))
   | exact ih0 _ _ _ _ _ _ _ _ _ _ _
   | exact ih1 _ _ _ _ _ _ _ _ _ _
   | exact ih2 _ _ _ _ _ _ _ _ _ _
   | exact ih3 _ _ _
   | exact batch_Decode.mono _ _ _
   | exact batch_Encode.mono _ _ _ _ _
   | exact shuttlecocklaw05_fixed.mono _
   | exact LeO.none _
   | refine LeO.ite ?_ ?_
   | refine LeO.bind ?_ (fun _ => ?_)
  ·
   intro y0 y1 y2
   unfold shuttlecocklaw05_BatchBack.j3
   repeat' first
   | (with_reducible exact ih0 _ _ _ _ _ _ _ _ _ _ _)
   | (with_reducible exact ih1 _ _ _ _ _ _ _ _ _ _)
   | (with_reducible exact ih2 _ _ _ _ _ _ _ _ _ _)
   | (with_reducible exact ih3 _ _ _)
   | (with_reducible exact batch_Decode.mono _ _ _)
   | (with_reducible exact batch_Encode.mono _ _ _ _ _)
   | (with_reducible exact shuttlecocklaw05_fixed.mono _)
   | (with_reducible exact LeO.refl _)
   | (with_reducible exact LeO.none _)
   | (with_reducible refine LeO.ite ?_ ?_)
   | (with_reducible refine LeO.bind ?_ (fun _ => ?_))
   | exact ih0 _ _ _ _ _ _ _ _ _ _ _
   | exact ih1 _ _ _ _ _ _ _ _ _ _
   | exact ih2 _ _ _ _ _ _ _ _ _ _
   | exact ih3 _ _ _
   | exact batch_Decode.mono _ _ _
   | exact batch_Encode.mono _ _ _ _ _
   | exact shuttlecocklaw05_fixed.mono _
   | exact LeO.none _
   | refine LeO.ite ?_ ?_
   | refine LeO.bind ?_ (fun _ => ?_)
theorem shuttlecocklaw05_BatchBack.mono : ∀ a0 a1 a2 a3 a4 a5 a6 a7 a8 a9 k, LeO (shuttlecocklaw05_BatchBack.f k a0 a1 a2 a3 a4 a5 a6 a7 a8 a9) (shuttlecocklaw05_BatchBack.f (k + 1) a0 a1 a2 a3 a4 a5 a6 a7 a8 a9) := by
 intro a0 a1 a2 a3 a4 a5 a6 a7 a8 a9 k
 obtain ⟨ih0, ih1, ih2, ih3⟩ := shuttlecocklaw05_BatchBack.mono_l k
 unfold shuttlecocklaw05_BatchBack.f
 repeat' first
   | (with_reducible exact ih0 _ _ _ _ _ _ _ _ _ _ _)
   | (with_reducible exact ih1 _ _ _ _ _ _ _ _ _ _)
   | (with_reducible exact ih2 _ _ _ _ _ _ _ _ _ _)
   | (with_reducible exact ih3 _ _ _)
   | (with_reducible exact batch_Decode.mono _ _ _)
   | (with_reducible exact batch_Encode.mono _ _ _ _ _)
   | (with_reducible exact shuttlecocklaw05_fixed.mono _)
   | (with_reducible exact LeO.refl _)
   | (with_reducible exact LeO.none _)
   | (with_reducible refine LeO.ite ?_ ?_)
   | (with_reducible refine LeO.bind ?_ (fun _ => ?_))
   | exact ih0 _ _ _ _ _ _ _ _ _ _ _
   | exact ih1 _ _ _ _ _ _ _ _ _ _
   | exact ih2 _ _ _ _ _ _ _ _ _ _
   | exact ih3 _ _ _
   | exact batch_Decode.mono _ _ _
   | exact batch_Encode.mono _ _ _ _ _
   | exact shuttlecocklaw05_fixed.mono _
   | exact LeO.none _
   | refine LeO.ite ?_ ?_
   | refine LeO.bind ?_ (fun _ => ?_)
def shuttlecocklaw05_BatchBack.T1 : Bool × List (List Nat × List Nat) := (true, [([], []), ([0], [0]), ([], []), ([2], [2]), ([], []), ([], []), ([4, 1, 0, 1, 4, 5], [1, 4]), ([5, 3, 6, 0, 1, 2, 3, 4, 5, 6], [3, 5])])
def shuttlecocklaw05_BatchBack.B1 : List Nat := [0, 1, 0, 4, 0, 0, 51, 127]
theorem shuttlecocklaw05_BatchBack.tab1 : rtab .any (opsOf Try.f4 1) = shuttlecocklaw05_BatchBack.T1 := by kernel_rfl
theorem shuttlecocklaw05_BatchBack.bits1 : waitsOk shuttlecocklaw05_BatchBack.T1.2 shuttlecocklaw05_BatchBack.B1 = true := by kernel_rfl
def shuttlecocklaw05_BatchBack.T5 : Bool × List (List Nat × List Nat) := (true, [([], []), ([0], [0]), ([1], [1]), ([2], [2]), ([3, 2, 2], [2, 3]), ([4, 2], [2, 4]), ([5, 4, 2], [2, 5]), ([6], [6]), ([6], [6]), ([8, 6], [6, 8]), ([7, 9, 6], [6, 7, 9]), ([6, 10, 2], [2, 6, 10]), ([11, 6, 2], [2, 11]), ([12], [12]), ([13, 12, 12], [12, 13]), ([12], [12]), ([12], [12]), ([12], [12]), ([17, 12], [12, 17]), ([16, 18, 12], [12, 16, 18]), ([15, 19, 12], [12, 15, 19]), ([14, 20, 12], [12, 14, 20]), ([12, 21, 2], [2, 12, 21]), ([2, 22], [2, 22])])
def shuttlecocklaw05_BatchBack.B5 : List Nat := [0, 1, 3, 7, 15, 31, 63, 127, 127, 383, 1023, 2047, 4095, 8191, 16383, 8191, 8191, 8191, 139263, 466943, 1023999, 2097151, 4194303, 8388607]
theorem shuttlecocklaw05_BatchBack.tab5 : rtab .any (opsOf Try.f4 5) = shuttlecocklaw05_BatchBack.T5 := by kernel_rfl
theorem shuttlecocklaw05_BatchBack.bits5 : waitsOk shuttlecocklaw05_BatchBack.T5.2 shuttlecocklaw05_BatchBack.B5 = true := by kernel_rfl
set_option maxHeartbeats 8000000 in
set_option maxRecDepth 100000 in
theorem shuttlecocklaw05_BatchBack.calls (k : Nat) (a0_0 : Int) (a0_1 : Int) (a0_2 : Int) (a0_3 : ByteArray) (a0_4 : Int) (a0_5 : Int) (a0_6 : Int) (a0_7 : ByteArray) (a1 : ByteArray) (a2 : Int) (r : Bool) (w : World) (h : shuttlecocklaw05_BatchBack.f k a0_0 a0_1 a0_2 a0_3 a0_4 a0_5 a0_6 a0_7 a1 a2 = some r) :
  Calls Try.prog 4 #[.agg #[.int .i64 a0_0, .int .i64 a0_1, .int .i64 a0_2, .string a0_3, .int .i64 a0_4, .int .i64 a0_5, .int .i64 a0_6, .string a0_7], .string a1, .int .i64 a2] w fun e w' => e = .returned (.bool r) ∧ Below w.heap.size w w' := by
 have hu37 := Try.underlying37
 have hu23 := Try.underlying23
 have HB := Am (Below.refl w.heap.size w)
 have H : ((shuttlecocklaw05_fixed.f k).bind fun t558 => (if t558 = true then (if (a0_3.size : Int) > 3000 then (shuttlecocklaw05_BatchBack.j0 k a1 a2 true a0_0 a0_1 a0_2 a0_3 a0_4 a0_5 a0_6 a0_7) else (if (a0_7.size : Int) > 3000 then (shuttlecocklaw05_BatchBack.j0 k a1 a2 true a0_0 a0_1 a0_2 a0_3 a0_4 a0_5 a0_6 a0_7) else (shuttlecocklaw05_BatchBack.j0 k a1 a2 (decide ((a1.size : Int) > 5000)) a0_0 a0_1 a0_2 a0_3 a0_4 a0_5 a0_6 a0_7))) else (shuttlecocklaw05_BatchBack.j0 k a1 a2 true a0_0 a0_1 a0_2 a0_3 a0_4 a0_5 a0_6 a0_7))) = some r := h
 clear h
 have HC4 := Am H
 clear H
 go_enter Try.func4, Try.ntmps4
 try go_wp2_with (first | ((with_reducible refine gate_dst (N := 3) rfl ?_); (try (refine gate_guard (by rfl) ?_; dsimp only)); refine box_event ?hg (N := 3) ?hd (cs := #[.int .i64 a0_0, .int .i64 a0_1, .int .i64 a0_2, .string a0_3, .int .i64 a0_4, .int .i64 a0_5, .int .i64 a0_6, .string a0_7]) (t := 37) ?hr ?_; (case hd => rfl); (case hg => rfl); (case hr => first | (go_simp; done) | (go_simp; rfl)); intro gb555 hg w5 hbox hb; have n0_ := Am (below_step (by repeat (first | (with_reducible first | exact HB.out | apply bl | apply pN | apply b1) | exact HB.out | exact HBo.out)) hb); have n1_ := Am (hbox); have n2_ := Am ((by rw [hg]; exact (below_size (by repeat (first | (with_reducible first | exact HB.out | apply bl | apply pN | apply b1) | exact HB.out | exact HBo.out))) : w.heap.size ≤ gb555)); have n3_ := Am ((by rw [hg]; exact (below_size (by repeat (first | (with_reducible first | exact HB.out | apply bl | apply pN | apply b1) | exact HB.out | exact HBo.out))) : w.heap.size ≤ gb555)); clear HB; have HB := n0_; have BK555 := n1_; have GW555 := n2_; have GE555 := n3_; clear n0_ n1_ n2_ n3_; clear hb hbox hg))
 have n0_ := Am (bd BK555.out)
 have n1_ := Am (b1 HB.out)
 clear BK555
 clear HB
 have BK555 := n0_
 have HB := n1_
 clear n0_ n1_
 refine start_ (n := 8) (S := fun w' => w'.cell? ⟨gb555, 0, none⟩ = some (.int .i64 a0_0) ∧ w'.cell? ⟨gb555, 1, none⟩ = some (.int .i64 a0_1) ∧ w'.cell? ⟨gb555, 2, none⟩ = some (.int .i64 a0_2) ∧ w'.cell? ⟨gb555, 3, none⟩ = some (.string a0_3) ∧ w'.cell? ⟨gb555, 4, none⟩ = some (.int .i64 a0_4) ∧ w'.cell? ⟨gb555, 5, none⟩ = some (.int .i64 a0_5) ∧ w'.cell? ⟨gb555, 6, none⟩ = some (.int .i64 a0_6) ∧ w'.cell? ⟨gb555, 7, none⟩ = some (.string a0_7)) (ds := []) q17_0 (by kernel_rfl) rfl rfl ⟨(bc BK555.out 0).trans rfl, (bc BK555.out 1).trans rfl, (bc BK555.out 2).trans rfl, (bc BK555.out 3).trans rfl, (bc BK555.out 4).trans rfl, (bc BK555.out 5).trans rfl, (bc BK555.out 6).trans rfl, (bc BK555.out 7).trans rfl⟩ (fun hHeld => ?_); refine with_tabW shuttlecocklaw05_BatchBack.tab1 shuttlecocklaw05_BatchBack.bits1 (fun HT_ HW_ => ?_)
 generalize w5.drew = w6 at BK555 HB hHeld ⊢
 refine Own.pr_ 0 (some 22) q17_1 HT_ (h := ?_)
 refine Own.pr_ 2 (some 24) q17_2 HT_ (h := ?_)
 refine Own.tk_ 1 (some 23) q17_3 HT_ HW_ hHeld (hy := by rintro w' ⟨s0, s1, s2, s3, s4, s5, s6, s7⟩; go_simp; with_reducible rfl) (h := ?_)
 refine Own.tk_ 3 (some 25) q17_4 HT_ HW_ hHeld (hy := by rintro w' ⟨s0, s1, s2, s3, s4, s5, s6, s7⟩; go_simp; with_reducible rfl) (h := ?_)
 refine join_ (σ := Nat × Nat) 2 q17_5 (fun s_ => [(7, .pointer (some ⟨s_.1, 0, none⟩)), (8, .pointer (some ⟨s_.2, 0, none⟩))]) (fun s_ w' => (w'.cell? ⟨gb555, 0, none⟩ = some (.int .i64 a0_0) ∧ w'.cell? ⟨gb555, 1, none⟩ = some (.int .i64 a0_1) ∧ w'.cell? ⟨gb555, 2, none⟩ = some (.int .i64 a0_2) ∧ w'.cell? ⟨gb555, 3, none⟩ = some (.string a0_3) ∧ w'.cell? ⟨gb555, 4, none⟩ = some (.int .i64 a0_4) ∧ w'.cell? ⟨gb555, 5, none⟩ = some (.int .i64 a0_5) ∧ w'.cell? ⟨gb555, 6, none⟩ = some (.int .i64 a0_6) ∧ w'.cell? ⟨gb555, 7, none⟩ = some (.string a0_7)) ∧ (w'.heap[gb555]? = some (.cells #[.int .i64 a0_0, .int .i64 a0_1, .int .i64 a0_2, .string a0_3, .int .i64 a0_4, .int .i64 a0_5, .int .i64 a0_6, .string a0_7] 37 (0, 0))) ∧ (w'.heap[s_.1]? = some (.cells #[.int .i64 0, .int .i64 0, .int .i64 0, .string (⟨#[]⟩ : ByteArray)] 23 (0, 0))) ∧ (w'.heap[s_.2]? = some (.cells #[.int .i64 0, .int .i64 0, .int .i64 0, .string (⟨#[]⟩ : ByteArray)] 23 (0, 0))) ∧ (w.heap.size ≤ s_.1) ∧ (w.heap.size ≤ s_.1) ∧ (gb555 ≠ s_.1) ∧ (s_.1 ≠ gb555) ∧ (s_.2 ≠ s_.1) ∧ (s_.1 ≠ s_.2) ∧ (w.heap.size ≤ s_.2) ∧ (w.heap.size ≤ s_.2) ∧ (gb555 ≠ s_.2) ∧ (s_.2 ≠ gb555) ∧ (Below w.heap.size w w')) ?_ ?_
 rotate_left
 ·
  intro hCont
  refine two_ (i := 4) (j := 5) (Ni := some 7) (Nj := some 8) q17_6 q17_7 rfl rfl rfl rfl (two_of HT_.out (by kernel_rfl)) (by decide) (by decide) (fun K hK => ?_) (fun K hK => ?_)
  ·
   skip
   refine box_step ?hg (N := 7) ?hd (cs := #[.int .i64 0, .int .i64 0, .int .i64 0, .string (⟨#[]⟩ : ByteArray)]) (t := 23) ?hr ?_; (case hd => rfl); (case hg => rfl); (case hr => first | (go_simp; done) | (go_simp; rfl))
   intro gb556 hg w7 hbox hb
   have n0_ := Am (blk_below (g := gb555) (o := .cells #[.int .i64 a0_0, .int .i64 a0_1, .int .i64 a0_2, .string a0_3, .int .i64 a0_4, .int .i64 a0_5, .int .i64 a0_6, .string a0_7] 37 (0, 0)) (by (with_reducible repeat (first | refine bn ?_ _ | refine bd ?_ | refine ba ?_ _)); exact BK555.out) hb)
   have n1_ := Am (below_step (by repeat (first | (with_reducible first | exact HB.out | apply bl | apply pN | apply b1 | refine bs ?_ GE555.out) | exact HB.out | exact HBo.out)) hb)
   have n2_ := Am (hbox)
   have n3_ := Am ((by rw [hg]; exact (below_size (by repeat (first | (with_reducible first | exact HB.out | apply bl | apply pN | apply b1 | refine bs ?_ GE555.out) | exact HB.out | exact HBo.out))) : w.heap.size ≤ gb556))
   have n4_ := Am ((by rw [hg]; exact (below_size (by repeat (first | (with_reducible first | exact HB.out | apply bl | apply pN | apply b1 | refine bs ?_ GE555.out) | exact HB.out | exact HBo.out))) : w.heap.size ≤ gb556))
   have n5_ := Am ((by rw [hg]; exact Nat.ne_of_lt (blk_lt (g := gb555) (o := .cells #[.int .i64 a0_0, .int .i64 a0_1, .int .i64 a0_2, .string a0_3, .int .i64 a0_4, .int .i64 a0_5, .int .i64 a0_6, .string a0_7] 37 (0, 0)) (by (with_reducible repeat (first | refine bn ?_ _ | refine bd ?_ | refine ba ?_ _)); exact BK555.out)) : gb555 ≠ gb556))
   have n6_ := Am ((by rw [hg]; exact Nat.ne_of_gt (blk_lt (g := gb555) (o := .cells #[.int .i64 a0_0, .int .i64 a0_1, .int .i64 a0_2, .string a0_3, .int .i64 a0_4, .int .i64 a0_5, .int .i64 a0_6, .string a0_7] 37 (0, 0)) (by (with_reducible repeat (first | refine bn ?_ _ | refine bd ?_ | refine ba ?_ _)); exact BK555.out)) : gb556 ≠ gb555))
   clear BK555
   clear HB
   have BK555 := n0_
   have HB := n1_
   have BK556 := n2_
   have GW556 := n3_
   have GE556 := n4_
   have NB555_556 := n5_
   have NB556_555 := n6_
   clear n0_ n1_ n2_ n3_ n4_ n5_ n6_
   clear hb hbox hg
   refine hK.out _ _ ⟨(bc BK555.out 0).trans rfl, (bc BK555.out 1).trans rfl, (bc BK555.out 2).trans rfl, (bc BK555.out 3).trans rfl, (bc BK555.out 4).trans rfl, (bc BK555.out 5).trans rfl, (bc BK555.out 6).trans rfl, (bc BK555.out 7).trans rfl⟩ (fun hHeld => ?_)
   clear hK K
   refine norm_ (a' := ?_) ?_ ?_
   rotate_left
   ·
    show Act.put _ (some 7) _ = _
    simp only [Act.put, sI, sZ, sS, i64_w, i32_w]
    rfl
   refine one_ (i := 5) (N := some 8) q17_5 rfl rfl (one_of HT_.out (by kernel_rfl)) (by decide) (fun K hK => ?_)
   refine box_step ?hg (N := 8) ?hd (cs := #[.int .i64 0, .int .i64 0, .int .i64 0, .string (⟨#[]⟩ : ByteArray)]) (t := 23) ?hr ?_; (case hd => rfl); (case hg => rfl); (case hr => first | (go_simp; done) | (go_simp; rfl))
   intro gb557 hg w8 hbox hb
   have n0_ := Am (blk_below (g := gb555) (o := .cells #[.int .i64 a0_0, .int .i64 a0_1, .int .i64 a0_2, .string a0_3, .int .i64 a0_4, .int .i64 a0_5, .int .i64 a0_6, .string a0_7] 37 (0, 0)) (by (with_reducible repeat (first | refine bn ?_ _ | refine bd ?_ | refine ba ?_ _)); exact BK555.out) hb)
   have n1_ := Am (blk_below (g := gb556) (o := .cells #[.int .i64 0, .int .i64 0, .int .i64 0, .string (⟨#[]⟩ : ByteArray)] 23 (0, 0)) (by (with_reducible repeat (first | refine bn ?_ _ | refine bd ?_ | refine ba ?_ _)); exact BK556.out) hb)
   have n2_ := Am (below_step (by repeat (first | (with_reducible first | exact HB.out | apply bl | apply pN | apply b1 | refine bs ?_ GE555.out | refine bs ?_ GE556.out) | exact HB.out | exact HBo.out)) hb)
   have n3_ := Am (hbox)
   have n4_ := Am ((by rw [hg]; exact (below_size (by repeat (first | (with_reducible first | exact HB.out | apply bl | apply pN | apply b1 | refine bs ?_ GE555.out | refine bs ?_ GE556.out) | exact HB.out | exact HBo.out))) : w.heap.size ≤ gb557))
   have n5_ := Am ((by rw [hg]; exact (below_size (by repeat (first | (with_reducible first | exact HB.out | apply bl | apply pN | apply b1 | refine bs ?_ GE555.out | refine bs ?_ GE556.out) | exact HB.out | exact HBo.out))) : w.heap.size ≤ gb557))
   have n6_ := Am ((by rw [hg]; exact Nat.ne_of_lt (blk_lt (g := gb555) (o := .cells #[.int .i64 a0_0, .int .i64 a0_1, .int .i64 a0_2, .string a0_3, .int .i64 a0_4, .int .i64 a0_5, .int .i64 a0_6, .string a0_7] 37 (0, 0)) (by (with_reducible repeat (first | refine bn ?_ _ | refine bd ?_ | refine ba ?_ _)); exact BK555.out)) : gb555 ≠ gb557))
   have n7_ := Am ((by rw [hg]; exact Nat.ne_of_gt (blk_lt (g := gb555) (o := .cells #[.int .i64 a0_0, .int .i64 a0_1, .int .i64 a0_2, .string a0_3, .int .i64 a0_4, .int .i64 a0_5, .int .i64 a0_6, .string a0_7] 37 (0, 0)) (by (with_reducible repeat (first | refine bn ?_ _ | refine bd ?_ | refine ba ?_ _)); exact BK555.out)) : gb557 ≠ gb555))
   have n8_ := Am ((by rw [hg]; exact Nat.ne_of_lt (blk_lt (g := gb556) (o := .cells #[.int .i64 0, .int .i64 0, .int .i64 0, .string (⟨#[]⟩ : ByteArray)] 23 (0, 0)) (by (with_reducible repeat (first | refine bn ?_ _ | refine bd ?_ | refine ba ?_ _)); exact BK556.out)) : gb556 ≠ gb557))
   have n9_ := Am ((by rw [hg]; exact Nat.ne_of_gt (blk_lt (g := gb556) (o := .cells #[.int .i64 0, .int .i64 0, .int .i64 0, .string (⟨#[]⟩ : ByteArray)] 23 (0, 0)) (by (with_reducible repeat (first | refine bn ?_ _ | refine bd ?_ | refine ba ?_ _)); exact BK556.out)) : gb557 ≠ gb556))
   clear BK555
   clear BK556
   clear HB
   have BK555 := n0_
   have BK556 := n1_
   have HB := n2_
   have BK557 := n3_
   have GW557 := n4_
   have GE557 := n5_
   have NB555_557 := n6_
   have NB557_555 := n7_
   have NB556_557 := n8_
   have NB557_556 := n9_
   clear n0_ n1_ n2_ n3_ n4_ n5_ n6_ n7_ n8_ n9_
   clear hb hbox hg
   refine hK.out _ _ ⟨(bc BK555.out 0).trans rfl, (bc BK555.out 1).trans rfl, (bc BK555.out 2).trans rfl, (bc BK555.out 3).trans rfl, (bc BK555.out 4).trans rfl, (bc BK555.out 5).trans rfl, (bc BK555.out 6).trans rfl, (bc BK555.out 7).trans rfl⟩ (fun hHeld => ?_)
   clear hK K
   refine norm_ (a' := ?_) ?_ ?_
   rotate_left
   ·
    show Act.put _ (some 8) _ = _
    simp only [Act.put, sI, sZ, sS, i64_w, i32_w]
    rfl
   exact norm_ (by simp only [putAll, Act.put, sI, sZ, sS]) (hCont (gb556, gb557) _ ⟨hHeld, (by (with_reducible repeat (first | refine bn ?_ _ | refine bd ?_ | refine ba ?_ _)); exact BK555.out), (by (with_reducible repeat (first | refine bn ?_ _ | refine bd ?_ | refine ba ?_ _)); exact BK556.out), (by (with_reducible repeat (first | refine bn ?_ _ | refine bd ?_ | refine ba ?_ _)); exact BK557.out), GW556.out, GE556.out, NB555_556.out, NB556_555.out, NB557_556.out, NB556_557.out, GW557.out, GE557.out, NB555_557.out, NB557_555.out, (by repeat (first | (with_reducible first | exact HB.out | apply bl | apply pN | apply b1 | refine bs ?_ GE555.out | refine bs ?_ GE556.out | refine bs ?_ GE557.out) | exact HB.out | exact HBo.out))⟩)
  ·
   skip
   refine box_step ?hg (N := 8) ?hd (cs := #[.int .i64 0, .int .i64 0, .int .i64 0, .string (⟨#[]⟩ : ByteArray)]) (t := 23) ?hr ?_; (case hd => rfl); (case hg => rfl); (case hr => first | (go_simp; done) | (go_simp; rfl))
   intro gb557 hg w7 hbox hb
   have n0_ := Am (blk_below (g := gb555) (o := .cells #[.int .i64 a0_0, .int .i64 a0_1, .int .i64 a0_2, .string a0_3, .int .i64 a0_4, .int .i64 a0_5, .int .i64 a0_6, .string a0_7] 37 (0, 0)) (by (with_reducible repeat (first | refine bn ?_ _ | refine bd ?_ | refine ba ?_ _)); exact BK555.out) hb)
   have n1_ := Am (below_step (by repeat (first | (with_reducible first | exact HB.out | apply bl | apply pN | apply b1 | refine bs ?_ GE555.out) | exact HB.out | exact HBo.out)) hb)
   have n2_ := Am (hbox)
   have n3_ := Am ((by rw [hg]; exact (below_size (by repeat (first | (with_reducible first | exact HB.out | apply bl | apply pN | apply b1 | refine bs ?_ GE555.out) | exact HB.out | exact HBo.out))) : w.heap.size ≤ gb557))
   have n4_ := Am ((by rw [hg]; exact (below_size (by repeat (first | (with_reducible first | exact HB.out | apply bl | apply pN | apply b1 | refine bs ?_ GE555.out) | exact HB.out | exact HBo.out))) : w.heap.size ≤ gb557))
   have n5_ := Am ((by rw [hg]; exact Nat.ne_of_lt (blk_lt (g := gb555) (o := .cells #[.int .i64 a0_0, .int .i64 a0_1, .int .i64 a0_2, .string a0_3, .int .i64 a0_4, .int .i64 a0_5, .int .i64 a0_6, .string a0_7] 37 (0, 0)) (by (with_reducible repeat (first | refine bn ?_ _ | refine bd ?_ | refine ba ?_ _)); exact BK555.out)) : gb555 ≠ gb557))
   have n6_ := Am ((by rw [hg]; exact Nat.ne_of_gt (blk_lt (g := gb555) (o := .cells #[.int .i64 a0_0, .int .i64 a0_1, .int .i64 a0_2, .string a0_3, .int .i64 a0_4, .int .i64 a0_5, .int .i64 a0_6, .string a0_7] 37 (0, 0)) (by (with_reducible repeat (first | refine bn ?_ _ | refine bd ?_ | refine ba ?_ _)); exact BK555.out)) : gb557 ≠ gb555))
   clear BK555
   clear HB
   have BK555 := n0_
   have HB := n1_
   have BK557 := n2_
   have GW557 := n3_
   have GE557 := n4_
   have NB555_557 := n5_
   have NB557_555 := n6_
   clear n0_ n1_ n2_ n3_ n4_ n5_ n6_
   clear hb hbox hg
   refine hK.out _ _ ⟨(bc BK555.out 0).trans rfl, (bc BK555.out 1).trans rfl, (bc BK555.out 2).trans rfl, (bc BK555.out 3).trans rfl, (bc BK555.out 4).trans rfl, (bc BK555.out 5).trans rfl, (bc BK555.out 6).trans rfl, (bc BK555.out 7).trans rfl⟩ (fun hHeld => ?_)
   clear hK K
   refine norm_ (a' := ?_) ?_ ?_
   rotate_left
   ·
    show Act.put _ (some 8) _ = _
    simp only [Act.put, sI, sZ, sS, i64_w, i32_w]
    rfl
   refine one_ (i := 4) (N := some 7) q17_5 rfl rfl (one_of HT_.out (by kernel_rfl)) (by decide) (fun K hK => ?_)
   refine box_step ?hg (N := 7) ?hd (cs := #[.int .i64 0, .int .i64 0, .int .i64 0, .string (⟨#[]⟩ : ByteArray)]) (t := 23) ?hr ?_; (case hd => rfl); (case hg => rfl); (case hr => first | (go_simp; done) | (go_simp; rfl))
   intro gb556 hg w8 hbox hb
   have n0_ := Am (blk_below (g := gb555) (o := .cells #[.int .i64 a0_0, .int .i64 a0_1, .int .i64 a0_2, .string a0_3, .int .i64 a0_4, .int .i64 a0_5, .int .i64 a0_6, .string a0_7] 37 (0, 0)) (by (with_reducible repeat (first | refine bn ?_ _ | refine bd ?_ | refine ba ?_ _)); exact BK555.out) hb)
   have n1_ := Am (blk_below (g := gb557) (o := .cells #[.int .i64 0, .int .i64 0, .int .i64 0, .string (⟨#[]⟩ : ByteArray)] 23 (0, 0)) (by (with_reducible repeat (first | refine bn ?_ _ | refine bd ?_ | refine ba ?_ _)); exact BK557.out) hb)
   have n2_ := Am (below_step (by repeat (first | (with_reducible first | exact HB.out | apply bl | apply pN | apply b1 | refine bs ?_ GE555.out | refine bs ?_ GE557.out) | exact HB.out | exact HBo.out)) hb)
   have n3_ := Am (hbox)
   have n4_ := Am ((by rw [hg]; exact (below_size (by repeat (first | (with_reducible first | exact HB.out | apply bl | apply pN | apply b1 | refine bs ?_ GE555.out | refine bs ?_ GE557.out) | exact HB.out | exact HBo.out))) : w.heap.size ≤ gb556))
   have n5_ := Am ((by rw [hg]; exact (below_size (by repeat (first | (with_reducible first | exact HB.out | apply bl | apply pN | apply b1 | refine bs ?_ GE555.out | refine bs ?_ GE557.out) | exact HB.out | exact HBo.out))) : w.heap.size ≤ gb556))
   have n6_ := Am ((by rw [hg]; exact Nat.ne_of_lt (blk_lt (g := gb555) (o := .cells #[.int .i64 a0_0, .int .i64 a0_1, .int .i64 a0_2, .string a0_3, .int .i64 a0_4, .int .i64 a0_5, .int .i64 a0_6, .string a0_7] 37 (0, 0)) (by (with_reducible repeat (first | refine bn ?_ _ | refine bd ?_ | refine ba ?_ _)); exact BK555.out)) : gb555 ≠ gb556))
   have n7_ := Am ((by rw [hg]; exact Nat.ne_of_gt (blk_lt (g := gb555) (o := .cells #[.int .i64 a0_0, .int .i64 a0_1, .int .i64 a0_2, .string a0_3, .int .i64 a0_4, .int .i64 a0_5, .int .i64 a0_6, .string a0_7] 37 (0, 0)) (by (with_reducible repeat (first | refine bn ?_ _ | refine bd ?_ | refine ba ?_ _)); exact BK555.out)) : gb556 ≠ gb555))
   have n8_ := Am ((by rw [hg]; exact Nat.ne_of_lt (blk_lt (g := gb557) (o := .cells #[.int .i64 0, .int .i64 0, .int .i64 0, .string (⟨#[]⟩ : ByteArray)] 23 (0, 0)) (by (with_reducible repeat (first | refine bn ?_ _ | refine bd ?_ | refine ba ?_ _)); exact BK557.out)) : gb557 ≠ gb556))
   have n9_ := Am ((by rw [hg]; exact Nat.ne_of_gt (blk_lt (g := gb557) (o := .cells #[.int .i64 0, .int .i64 0, .int .i64 0, .string (⟨#[]⟩ : ByteArray)] 23 (0, 0)) (by (with_reducible repeat (first | refine bn ?_ _ | refine bd ?_ | refine ba ?_ _)); exact BK557.out)) : gb556 ≠ gb557))
   clear BK555
   clear BK557
   clear HB
   have BK555 := n0_
   have BK557 := n1_
   have HB := n2_
   have BK556 := n3_
   have GW556 := n4_
   have GE556 := n5_
   have NB555_556 := n6_
   have NB556_555 := n7_
   have NB557_556 := n8_
   have NB556_557 := n9_
   clear n0_ n1_ n2_ n3_ n4_ n5_ n6_ n7_ n8_ n9_
   clear hb hbox hg
   refine hK.out _ _ ⟨(bc BK555.out 0).trans rfl, (bc BK555.out 1).trans rfl, (bc BK555.out 2).trans rfl, (bc BK555.out 3).trans rfl, (bc BK555.out 4).trans rfl, (bc BK555.out 5).trans rfl, (bc BK555.out 6).trans rfl, (bc BK555.out 7).trans rfl⟩ (fun hHeld => ?_)
   clear hK K
   refine norm_ (a' := ?_) ?_ ?_
   rotate_left
   ·
    show Act.put _ (some 7) _ = _
    simp only [Act.put, sI, sZ, sS, i64_w, i32_w]
    rfl
   exact norm_ (by simp only [putAll, Act.put, sI, sZ, sS]) (hCont (gb556, gb557) _ ⟨hHeld, (by (with_reducible repeat (first | refine bn ?_ _ | refine bd ?_ | refine ba ?_ _)); exact BK555.out), (by (with_reducible repeat (first | refine bn ?_ _ | refine bd ?_ | refine ba ?_ _)); exact BK556.out), (by (with_reducible repeat (first | refine bn ?_ _ | refine bd ?_ | refine ba ?_ _)); exact BK557.out), GW556.out, GE556.out, NB555_556.out, NB556_555.out, NB557_556.out, NB556_557.out, GW557.out, GE557.out, NB555_557.out, NB557_555.out, (by repeat (first | (with_reducible first | exact HB.out | apply bl | apply pN | apply b1 | refine bs ?_ GE555.out | refine bs ?_ GE557.out | refine bs ?_ GE556.out) | exact HB.out | exact HBo.out))⟩)
 rintro ⟨gb556, gb557⟩ w9 ⟨hS_, h0_, h1_, h2_, h3_, h4_, h5_, h6_, h7_, h8_, h9_, h10_, h11_, h12_, h13_⟩
 have n0_ : Aside0 (w9.heap[gb555]? = some (.cells #[.int .i64 a0_0, .int .i64 a0_1, .int .i64 a0_2, .string a0_3, .int .i64 a0_4, .int .i64 a0_5, .int .i64 a0_6, .string a0_7] 37 (0, 0))) := ⟨h0_⟩
 have n1_ : Aside0 (w9.heap[gb556]? = some (.cells #[.int .i64 0, .int .i64 0, .int .i64 0, .string (⟨#[]⟩ : ByteArray)] 23 (0, 0))) := ⟨h1_⟩
 have n2_ : Aside0 (w9.heap[gb557]? = some (.cells #[.int .i64 0, .int .i64 0, .int .i64 0, .string (⟨#[]⟩ : ByteArray)] 23 (0, 0))) := ⟨h2_⟩
 have n3_ : Aside0 (w.heap.size ≤ gb556) := ⟨h3_⟩
 have n4_ : Aside0 (w.heap.size ≤ gb556) := ⟨h4_⟩
 have n5_ : Aside0 (gb555 ≠ gb556) := ⟨h5_⟩
 have n6_ : Aside0 (gb556 ≠ gb555) := ⟨h6_⟩
 have n7_ : Aside0 (gb557 ≠ gb556) := ⟨h7_⟩
 have n8_ : Aside0 (gb556 ≠ gb557) := ⟨h8_⟩
 have n9_ : Aside0 (w.heap.size ≤ gb557) := ⟨h9_⟩
 have n10_ : Aside0 (w.heap.size ≤ gb557) := ⟨h10_⟩
 have n11_ : Aside0 (gb555 ≠ gb557) := ⟨h11_⟩
 have n12_ : Aside0 (gb557 ≠ gb555) := ⟨h12_⟩
 have n13_ : Aside0 (Below w.heap.size w w9) := ⟨h13_⟩
 clear BK555
 clear HB
 clear h0_ h1_ h2_ h3_ h4_ h5_ h6_ h7_ h8_ h9_ h10_ h11_ h12_ h13_
 have BK555 := n0_
 have BK556 := n1_
 have BK557 := n2_
 have GW556 := n3_
 have GE556 := n4_
 have NB555_556 := n5_
 have NB556_555 := n6_
 have NB557_556 := n7_
 have NB556_557 := n8_
 have GW557 := n9_
 have GE557 := n10_
 have NB555_557 := n11_
 have NB557_555 := n12_
 have HB := n13_
 clear n0_ n1_ n2_ n3_ n4_ n5_ n6_ n7_ n8_ n9_ n10_ n11_ n12_ n13_
 have hHeld : w9.cell? ⟨gb555, 0, none⟩ = some (.int .i64 a0_0) ∧ w9.cell? ⟨gb555, 1, none⟩ = some (.int .i64 a0_1) ∧ w9.cell? ⟨gb555, 2, none⟩ = some (.int .i64 a0_2) ∧ w9.cell? ⟨gb555, 3, none⟩ = some (.string a0_3) ∧ w9.cell? ⟨gb555, 4, none⟩ = some (.int .i64 a0_4) ∧ w9.cell? ⟨gb555, 5, none⟩ = some (.int .i64 a0_5) ∧ w9.cell? ⟨gb555, 6, none⟩ = some (.int .i64 a0_6) ∧ w9.cell? ⟨gb555, 7, none⟩ = some (.string a0_7) := hS_
 refine norm_ (a' := ?_) ?_ ?_
 rotate_left
 ·
  simp only [putAll, Act.put, sI, sZ, sS]
  rfl
 refine one_ (i := 6) (N := none) q17_8 rfl rfl (one_of HT_.out (by kernel_rfl)) (by decide) (fun K hK => ?_)
 have hs10 : w9.cell? ⟨gb556, 0, none⟩ = some (.int .i64 0) := (bc BK556.out 0).trans rfl
 have hfs10 := bf BK556.out 0
 have hns10_0 := NB555_556.out
 have hns10_2 := NB557_556.out
 have hms10_0 := NB556_555.out
 have hms10_2 := NB556_557.out
 have hs11 : w9.cell? ⟨gb556, 1, none⟩ = some (.int .i64 0) := (bc BK556.out 1).trans rfl
 have hfs11 := bf BK556.out 1
 have hns11_0 := NB555_556.out
 have hns11_2 := NB557_556.out
 have hms11_0 := NB556_555.out
 have hms11_2 := NB556_557.out
 have hs12 : w9.cell? ⟨gb556, 2, none⟩ = some (.int .i64 0) := (bc BK556.out 2).trans rfl
 have hfs12 := bf BK556.out 2
 have hns12_0 := NB555_556.out
 have hns12_2 := NB557_556.out
 have hms12_0 := NB556_555.out
 have hms12_2 := NB556_557.out
 have hs13 : w9.cell? ⟨gb556, 3, none⟩ = some (.string (⟨#[]⟩ : ByteArray)) := (bc BK556.out 3).trans rfl
 have hfs13 := bf BK556.out 3
 have hns13_0 := NB555_556.out
 have hns13_2 := NB557_556.out
 have hms13_0 := NB556_555.out
 have hms13_2 := NB556_557.out
 refine skip_ (w1 := ?_) (by rfl) rfl ?_ ?_
 rotate_left
 ·
  go_simp
  rfl
 refine hK.out _ _ ⟨((cell_far (p := ⟨gb556, _, none⟩) NB555_556.out _).trans (((cell_far (p := ⟨gb556, _, none⟩) NB555_556.out _).trans (((cell_far (p := ⟨gb556, _, none⟩) NB555_556.out _).trans (((cell_far (p := ⟨gb556, _, none⟩) NB555_556.out _).trans (hHeld.1)))))))), ((cell_far (p := ⟨gb556, _, none⟩) NB555_556.out _).trans (((cell_far (p := ⟨gb556, _, none⟩) NB555_556.out _).trans (((cell_far (p := ⟨gb556, _, none⟩) NB555_556.out _).trans (((cell_far (p := ⟨gb556, _, none⟩) NB555_556.out _).trans (hHeld.2.1)))))))), ((cell_far (p := ⟨gb556, _, none⟩) NB555_556.out _).trans (((cell_far (p := ⟨gb556, _, none⟩) NB555_556.out _).trans (((cell_far (p := ⟨gb556, _, none⟩) NB555_556.out _).trans (((cell_far (p := ⟨gb556, _, none⟩) NB555_556.out _).trans (hHeld.2.2.1)))))))), ((cell_far (p := ⟨gb556, _, none⟩) NB555_556.out _).trans (((cell_far (p := ⟨gb556, _, none⟩) NB555_556.out _).trans (((cell_far (p := ⟨gb556, _, none⟩) NB555_556.out _).trans (((cell_far (p := ⟨gb556, _, none⟩) NB555_556.out _).trans (hHeld.2.2.2.1)))))))), ((cell_far (p := ⟨gb556, _, none⟩) NB555_556.out _).trans (((cell_far (p := ⟨gb556, _, none⟩) NB555_556.out _).trans (((cell_far (p := ⟨gb556, _, none⟩) NB555_556.out _).trans (((cell_far (p := ⟨gb556, _, none⟩) NB555_556.out _).trans (hHeld.2.2.2.2.1)))))))), ((cell_far (p := ⟨gb556, _, none⟩) NB555_556.out _).trans (((cell_far (p := ⟨gb556, _, none⟩) NB555_556.out _).trans (((cell_far (p := ⟨gb556, _, none⟩) NB555_556.out _).trans (((cell_far (p := ⟨gb556, _, none⟩) NB555_556.out _).trans (hHeld.2.2.2.2.2.1)))))))), ((cell_far (p := ⟨gb556, _, none⟩) NB555_556.out _).trans (((cell_far (p := ⟨gb556, _, none⟩) NB555_556.out _).trans (((cell_far (p := ⟨gb556, _, none⟩) NB555_556.out _).trans (((cell_far (p := ⟨gb556, _, none⟩) NB555_556.out _).trans (hHeld.2.2.2.2.2.2.1)))))))), ((cell_far (p := ⟨gb556, _, none⟩) NB555_556.out _).trans (((cell_far (p := ⟨gb556, _, none⟩) NB555_556.out _).trans (((cell_far (p := ⟨gb556, _, none⟩) NB555_556.out _).trans (((cell_far (p := ⟨gb556, _, none⟩) NB555_556.out _).trans (hHeld.2.2.2.2.2.2.2))))))))⟩ (fun hHeld => ?_)
 clear hK K
 refine one_ (i := 7) (N := none) q17_9 rfl rfl (one_of HT_.out (by kernel_rfl)) (by decide) (fun K hK => ?_)
 have hs14 : w9.cell? ⟨gb557, 0, none⟩ = some (.int .i64 0) := (bc BK557.out 0).trans rfl
 have hfs14 := bf BK557.out 0
 have hns14_0 := NB555_557.out
 have hns14_1 := NB556_557.out
 have hms14_0 := NB557_555.out
 have hms14_1 := NB557_556.out
 have hs15 : w9.cell? ⟨gb557, 1, none⟩ = some (.int .i64 0) := (bc BK557.out 1).trans rfl
 have hfs15 := bf BK557.out 1
 have hns15_0 := NB555_557.out
 have hns15_1 := NB556_557.out
 have hms15_0 := NB557_555.out
 have hms15_1 := NB557_556.out
 have hs16 : w9.cell? ⟨gb557, 2, none⟩ = some (.int .i64 0) := (bc BK557.out 2).trans rfl
 have hfs16 := bf BK557.out 2
 have hns16_0 := NB555_557.out
 have hns16_1 := NB556_557.out
 have hms16_0 := NB557_555.out
 have hms16_1 := NB557_556.out
 have hs17 : w9.cell? ⟨gb557, 3, none⟩ = some (.string (⟨#[]⟩ : ByteArray)) := (bc BK557.out 3).trans rfl
 have hfs17 := bf BK557.out 3
 have hns17_0 := NB555_557.out
 have hns17_1 := NB556_557.out
 have hms17_0 := NB557_555.out
 have hms17_1 := NB557_556.out
 refine skip_ (w1 := ?_) (by rfl) rfl ?_ ?_
 rotate_left
 ·
  go_simp
  rfl
 refine hK.out _ _ ⟨((cell_far (p := ⟨gb557, _, none⟩) NB555_557.out _).trans (((cell_far (p := ⟨gb557, _, none⟩) NB555_557.out _).trans (((cell_far (p := ⟨gb557, _, none⟩) NB555_557.out _).trans (((cell_far (p := ⟨gb557, _, none⟩) NB555_557.out _).trans (hHeld.1)))))))), ((cell_far (p := ⟨gb557, _, none⟩) NB555_557.out _).trans (((cell_far (p := ⟨gb557, _, none⟩) NB555_557.out _).trans (((cell_far (p := ⟨gb557, _, none⟩) NB555_557.out _).trans (((cell_far (p := ⟨gb557, _, none⟩) NB555_557.out _).trans (hHeld.2.1)))))))), ((cell_far (p := ⟨gb557, _, none⟩) NB555_557.out _).trans (((cell_far (p := ⟨gb557, _, none⟩) NB555_557.out _).trans (((cell_far (p := ⟨gb557, _, none⟩) NB555_557.out _).trans (((cell_far (p := ⟨gb557, _, none⟩) NB555_557.out _).trans (hHeld.2.2.1)))))))), ((cell_far (p := ⟨gb557, _, none⟩) NB555_557.out _).trans (((cell_far (p := ⟨gb557, _, none⟩) NB555_557.out _).trans (((cell_far (p := ⟨gb557, _, none⟩) NB555_557.out _).trans (((cell_far (p := ⟨gb557, _, none⟩) NB555_557.out _).trans (hHeld.2.2.2.1)))))))), ((cell_far (p := ⟨gb557, _, none⟩) NB555_557.out _).trans (((cell_far (p := ⟨gb557, _, none⟩) NB555_557.out _).trans (((cell_far (p := ⟨gb557, _, none⟩) NB555_557.out _).trans (((cell_far (p := ⟨gb557, _, none⟩) NB555_557.out _).trans (hHeld.2.2.2.2.1)))))))), ((cell_far (p := ⟨gb557, _, none⟩) NB555_557.out _).trans (((cell_far (p := ⟨gb557, _, none⟩) NB555_557.out _).trans (((cell_far (p := ⟨gb557, _, none⟩) NB555_557.out _).trans (((cell_far (p := ⟨gb557, _, none⟩) NB555_557.out _).trans (hHeld.2.2.2.2.2.1)))))))), ((cell_far (p := ⟨gb557, _, none⟩) NB555_557.out _).trans (((cell_far (p := ⟨gb557, _, none⟩) NB555_557.out _).trans (((cell_far (p := ⟨gb557, _, none⟩) NB555_557.out _).trans (((cell_far (p := ⟨gb557, _, none⟩) NB555_557.out _).trans (hHeld.2.2.2.2.2.2.1)))))))), ((cell_far (p := ⟨gb557, _, none⟩) NB555_557.out _).trans (((cell_far (p := ⟨gb557, _, none⟩) NB555_557.out _).trans (((cell_far (p := ⟨gb557, _, none⟩) NB555_557.out _).trans (((cell_far (p := ⟨gb557, _, none⟩) NB555_557.out _).trans (hHeld.2.2.2.2.2.2.2))))))))⟩ (fun hHeld => ?_)
 clear hK K
 refine done_ (done_of HT_.out (by kernel_rfl)) ?_
 go_upto_region 2 with (fail)
 go_cut [44] (fun v44 wc => ∃ (kq : Nat) (x44_3 : Bool), v44 = .bool x44_3 ∧ Aside0 (shuttlecocklaw05_BatchBack.j0 kq a1 a2 x44_3 a0_0 a0_1 a0_2 a0_3 a0_4 a0_5 a0_6 a0_7 = some r) ∧ Aside0 (kq ≤ k) ∧ Aside0 (wc.heap[gb555]? = some (.cells #[.int .i64 a0_0, .int .i64 a0_1, .int .i64 a0_2, .string a0_3, .int .i64 a0_4, .int .i64 a0_5, .int .i64 a0_6, .string a0_7] 37 (0, 0))) ∧ Aside0 (wc.heap[gb556]? = some (.cells #[.int .i64 a0_0, .int .i64 a0_1, .int .i64 a0_2, .string a0_3] 23 (0, 0))) ∧ Aside0 (wc.heap[gb557]? = some (.cells #[.int .i64 a0_4, .int .i64 a0_5, .int .i64 a0_6, .string a0_7] 23 (0, 0))) ∧ Aside0 (Below w.heap.size w wc))
 case first =>
  have H := HC4.out
  clear HC4
  replace H := ob H
  obtain ⟨t558, A180, H⟩ := H
  replace H : (if t558 = true then (if (a0_3.size : Int) > 3000 then (shuttlecocklaw05_BatchBack.j0 k a1 a2 true a0_0 a0_1 a0_2 a0_3 a0_4 a0_5 a0_6 a0_7) else (if (a0_7.size : Int) > 3000 then (shuttlecocklaw05_BatchBack.j0 k a1 a2 true a0_0 a0_1 a0_2 a0_3 a0_4 a0_5 a0_6 a0_7) else (shuttlecocklaw05_BatchBack.j0 k a1 a2 (decide ((a1.size : Int) > 5000)) a0_0 a0_1 a0_2 a0_3 a0_4 a0_5 a0_6 a0_7))) else (shuttlecocklaw05_BatchBack.j0 k a1 a2 true a0_0 a0_1 a0_2 a0_3 a0_4 a0_5 a0_6 a0_7)) = some r := H
  have A18 := Am A180
  clear A180
  by_cases c19 : t558 = true
  ·
   subst c19
   have H1 : (if (a0_3.size : Int) > 3000 then (shuttlecocklaw05_BatchBack.j0 k a1 a2 true a0_0 a0_1 a0_2 a0_3 a0_4 a0_5 a0_6 a0_7) else (if (a0_7.size : Int) > 3000 then (shuttlecocklaw05_BatchBack.j0 k a1 a2 true a0_0 a0_1 a0_2 a0_3 a0_4 a0_5 a0_6 a0_7) else (shuttlecocklaw05_BatchBack.j0 k a1 a2 (decide ((a1.size : Int) > 5000)) a0_0 a0_1 a0_2 a0_3 a0_4 a0_5 a0_6 a0_7))) = some r := by rw [if_pos rfl] at H; exact H
   clear H
   have H := H1
   clear H1
   by_cases c20 : (a0_3.size : Int) > 3000
   ·
    rw [if_pos c20] at H
    have c20b0 : decide (3000 < (a0_3.size : Int)) = true := decide_eq_true c20
    have c20b1 : decide (3000 < a0_3.size) = true := decide_eq_true (by omega)
    clear c20
    (first | rw [c20b0] | (simp only [i64_w, i32_w]; rw [c20b0]) | skip)
    have H' := Am H
    clear H
    go_wp2_with (first | ((with_reducible refine gate_callee (f := 8) rfl ?_); refine goesL_ (some 26) rfl rfl Try.func8 (by kernel_rfl) rfl #[] rfl (by (try simp only [List.map_toArray, List.map_cons, List.map_nil]); first | done | rfl | (simp only [List.length_drop, List.length_take]; rfl)) ?_; (with_reducible refine (shuttlecocklaw05_fixed.calls k  true _ A18.out).mono ?_); rintro e w21 ⟨rfl, hb⟩; refine ⟨_, rfl, ?_⟩; have n0_ := Am (blk_below (g := gb555) (o := .cells #[.int .i64 a0_0, .int .i64 a0_1, .int .i64 a0_2, .string a0_3, .int .i64 a0_4, .int .i64 a0_5, .int .i64 a0_6, .string a0_7] 37 (0, 0)) (by (with_reducible repeat (first | refine bn ?_ _ | refine bd ?_ | refine ba ?_ _)); refine blk_far ?_ NB555_557.out _; (with_reducible repeat (first | refine bn ?_ _ | refine bd ?_ | refine ba ?_ _)); refine blk_far ?_ NB555_557.out _; (with_reducible repeat (first | refine bn ?_ _ | refine bd ?_ | refine ba ?_ _)); refine blk_far ?_ NB555_557.out _; (with_reducible repeat (first | refine bn ?_ _ | refine bd ?_ | refine ba ?_ _)); refine blk_far ?_ NB555_557.out _; (with_reducible repeat (first | refine bn ?_ _ | refine bd ?_ | refine ba ?_ _)); refine blk_far ?_ NB555_556.out _; (with_reducible repeat (first | refine bn ?_ _ | refine bd ?_ | refine ba ?_ _)); refine blk_far ?_ NB555_556.out _; (with_reducible repeat (first | refine bn ?_ _ | refine bd ?_ | refine ba ?_ _)); refine blk_far ?_ NB555_556.out _; (with_reducible repeat (first | refine bn ?_ _ | refine bd ?_ | refine ba ?_ _)); refine blk_far ?_ NB555_556.out _; (with_reducible repeat (first | refine bn ?_ _ | refine bd ?_ | refine ba ?_ _)); exact BK555.out) hb); have n1_ := Am (blk_below (g := gb556) (o := .cells #[.int .i64 a0_0, .int .i64 a0_1, .int .i64 a0_2, .string a0_3] 23 (0, 0)) (by (with_reducible repeat (first | refine bn ?_ _ | refine bd ?_ | refine ba ?_ _)); refine blk_far ?_ NB556_557.out _; (with_reducible repeat (first | refine bn ?_ _ | refine bd ?_ | refine ba ?_ _)); refine blk_far ?_ NB556_557.out _; (with_reducible repeat (first | refine bn ?_ _ | refine bd ?_ | refine ba ?_ _)); refine blk_far ?_ NB556_557.out _; (with_reducible repeat (first | refine bn ?_ _ | refine bd ?_ | refine ba ?_ _)); refine blk_far ?_ NB556_557.out _; (with_reducible repeat (first | refine bn ?_ _ | refine bd ?_ | refine ba ?_ _)); refine blk_put (cs := #[.int .i64 a0_0, .int .i64 a0_1, .int .i64 a0_2, .string (⟨#[]⟩ : ByteArray)]) ?_ 3 _ rfl; (with_reducible repeat (first | refine bn ?_ _ | refine bd ?_ | refine ba ?_ _)); refine blk_put (cs := #[.int .i64 a0_0, .int .i64 a0_1, .int .i64 0, .string (⟨#[]⟩ : ByteArray)]) ?_ 2 _ rfl; (with_reducible repeat (first | refine bn ?_ _ | refine bd ?_ | refine ba ?_ _)); refine blk_put (cs := #[.int .i64 a0_0, .int .i64 0, .int .i64 0, .string (⟨#[]⟩ : ByteArray)]) ?_ 1 _ rfl; (with_reducible repeat (first | refine bn ?_ _ | refine bd ?_ | refine ba ?_ _)); refine blk_put (cs := #[.int .i64 0, .int .i64 0, .int .i64 0, .string (⟨#[]⟩ : ByteArray)]) ?_ 0 _ rfl; (with_reducible repeat (first | refine bn ?_ _ | refine bd ?_ | refine ba ?_ _)); exact BK556.out) hb); have n2_ := Am (blk_below (g := gb557) (o := .cells #[.int .i64 a0_4, .int .i64 a0_5, .int .i64 a0_6, .string a0_7] 23 (0, 0)) (by (with_reducible repeat (first | refine bn ?_ _ | refine bd ?_ | refine ba ?_ _)); refine blk_put (cs := #[.int .i64 a0_4, .int .i64 a0_5, .int .i64 a0_6, .string (⟨#[]⟩ : ByteArray)]) ?_ 3 _ rfl; (with_reducible repeat (first | refine bn ?_ _ | refine bd ?_ | refine ba ?_ _)); refine blk_put (cs := #[.int .i64 a0_4, .int .i64 a0_5, .int .i64 0, .string (⟨#[]⟩ : ByteArray)]) ?_ 2 _ rfl; (with_reducible repeat (first | refine bn ?_ _ | refine bd ?_ | refine ba ?_ _)); refine blk_put (cs := #[.int .i64 a0_4, .int .i64 0, .int .i64 0, .string (⟨#[]⟩ : ByteArray)]) ?_ 1 _ rfl; (with_reducible repeat (first | refine bn ?_ _ | refine bd ?_ | refine ba ?_ _)); refine blk_put (cs := #[.int .i64 0, .int .i64 0, .int .i64 0, .string (⟨#[]⟩ : ByteArray)]) ?_ 0 _ rfl; (with_reducible repeat (first | refine bn ?_ _ | refine bd ?_ | refine ba ?_ _)); refine blk_far ?_ NB557_556.out _; (with_reducible repeat (first | refine bn ?_ _ | refine bd ?_ | refine ba ?_ _)); refine blk_far ?_ NB557_556.out _; (with_reducible repeat (first | refine bn ?_ _ | refine bd ?_ | refine ba ?_ _)); refine blk_far ?_ NB557_556.out _; (with_reducible repeat (first | refine bn ?_ _ | refine bd ?_ | refine ba ?_ _)); refine blk_far ?_ NB557_556.out _; (with_reducible repeat (first | refine bn ?_ _ | refine bd ?_ | refine ba ?_ _)); exact BK557.out) hb); have n3_ := Am (below_step (by repeat (first | (with_reducible first | exact HB.out | apply bl | apply pN | apply b1 | refine bs ?_ GE555.out | refine bs ?_ GE556.out | refine bs ?_ GE557.out) | exact HB.out | exact HBo.out)) hb); clear BK555; clear BK556; clear BK557; clear HB; have BK555 := n0_; have BK556 := n1_; have BK557 := n2_; have HB := n3_; clear n0_ n1_ n2_ n3_; (try clear hb); (try clear hb2); (try clear hk); (try clear hi); have hnb22 := NB556_555.out; have hnc22 := NB555_556.out; have hnb23 := NB556_557.out; have hnc23 := NB557_556.out; have hcz24_0 : w21.cell? ⟨gb556, 0, none⟩ = some (.int .i64 a0_0) := (bc BK556.out 0).trans rfl; have hcz24_1 : w21.cell? ⟨gb556, 1, none⟩ = some (.int .i64 a0_1) := (bc BK556.out 1).trans rfl; have hcz24_2 : w21.cell? ⟨gb556, 2, none⟩ = some (.int .i64 a0_2) := (bc BK556.out 2).trans rfl; have hcz24_3 : w21.cell? ⟨gb556, 3, none⟩ = some (.string a0_3) := (bc BK556.out 3).trans rfl; have hfz24_0 := bf BK556.out 0; have hfz24_1 := bf BK556.out 1; have hfz24_2 := bf BK556.out 2; have hfz24_3 := bf BK556.out 3))
    go_meet
    case rel => exact ⟨_, (true), (by first | rfl | (simp; done) | (simp [*]; done)), H', ⟨by first | omega | exact Nat.le_refl _⟩, ⟨by (with_reducible repeat (first | refine bn ?_ _ | refine bd ?_ | refine ba ?_ _)); exact BK555.out⟩, ⟨by (with_reducible repeat (first | refine bn ?_ _ | refine bd ?_ | refine ba ?_ _)); exact BK556.out⟩, ⟨by (with_reducible repeat (first | refine bn ?_ _ | refine bd ?_ | refine ba ?_ _)); exact BK557.out⟩, ⟨by repeat (first | (with_reducible first | exact HB.out | apply bl | apply pN | apply b1 | refine bs ?_ GE555.out | refine bs ?_ GE556.out | refine bs ?_ GE557.out) | exact HB.out | exact HBo.out)⟩⟩
   ·
    rw [if_neg c20] at H
    have c20b0 : decide (3000 < (a0_3.size : Int)) = false := decide_eq_false c20
    have c20b1 : decide (3000 < a0_3.size) = false := decide_eq_false (by omega)
    clear c20
    (first | rw [c20b0] | (simp only [i64_w, i32_w]; rw [c20b0]) | skip)
    by_cases c25 : (a0_7.size : Int) > 3000
    ·
     rw [if_pos c25] at H
     have c25b0 : decide (3000 < (a0_7.size : Int)) = true := decide_eq_true c25
     have c25b1 : decide (3000 < a0_7.size) = true := decide_eq_true (by omega)
     clear c25
     have H' := Am H
     clear H
     go_wp2_with (first | ((with_reducible refine gate_callee (f := 8) rfl ?_); refine goesL_ (some 26) rfl rfl Try.func8 (by kernel_rfl) rfl #[] rfl (by (try simp only [List.map_toArray, List.map_cons, List.map_nil]); first | done | rfl | (simp only [List.length_drop, List.length_take]; rfl)) ?_; (with_reducible refine (shuttlecocklaw05_fixed.calls k  true _ A18.out).mono ?_); rintro e w26 ⟨rfl, hb⟩; refine ⟨_, rfl, ?_⟩; have n0_ := Am (blk_below (g := gb555) (o := .cells #[.int .i64 a0_0, .int .i64 a0_1, .int .i64 a0_2, .string a0_3, .int .i64 a0_4, .int .i64 a0_5, .int .i64 a0_6, .string a0_7] 37 (0, 0)) (by (with_reducible repeat (first | refine bn ?_ _ | refine bd ?_ | refine ba ?_ _)); refine blk_far ?_ NB555_557.out _; (with_reducible repeat (first | refine bn ?_ _ | refine bd ?_ | refine ba ?_ _)); refine blk_far ?_ NB555_557.out _; (with_reducible repeat (first | refine bn ?_ _ | refine bd ?_ | refine ba ?_ _)); refine blk_far ?_ NB555_557.out _; (with_reducible repeat (first | refine bn ?_ _ | refine bd ?_ | refine ba ?_ _)); refine blk_far ?_ NB555_557.out _; (with_reducible repeat (first | refine bn ?_ _ | refine bd ?_ | refine ba ?_ _)); refine blk_far ?_ NB555_556.out _; (with_reducible repeat (first | refine bn ?_ _ | refine bd ?_ | refine ba ?_ _)); refine blk_far ?_ NB555_556.out _; (with_reducible repeat (first | refine bn ?_ _ | refine bd ?_ | refine ba ?_ _)); refine blk_far ?_ NB555_556.out _; (with_reducible repeat (first | refine bn ?_ _ | refine bd ?_ | refine ba ?_ _)); refine blk_far ?_ NB555_556.out _; (with_reducible repeat (first | refine bn ?_ _ | refine bd ?_ | refine ba ?_ _)); exact BK555.out) hb); have n1_ := Am (blk_below (g := gb556) (o := .cells #[.int .i64 a0_0, .int .i64 a0_1, .int .i64 a0_2, .string a0_3] 23 (0, 0)) (by (with_reducible repeat (first | refine bn ?_ _ | refine bd ?_ | refine ba ?_ _)); refine blk_far ?_ NB556_557.out _; (with_reducible repeat (first | refine bn ?_ _ | refine bd ?_ | refine ba ?_ _)); refine blk_far ?_ NB556_557.out _; (with_reducible repeat (first | refine bn ?_ _ | refine bd ?_ | refine ba ?_ _)); refine blk_far ?_ NB556_557.out _; (with_reducible repeat (first | refine bn ?_ _ | refine bd ?_ | refine ba ?_ _)); refine blk_far ?_ NB556_557.out _; (with_reducible repeat (first | refine bn ?_ _ | refine bd ?_ | refine ba ?_ _)); refine blk_put (cs := #[.int .i64 a0_0, .int .i64 a0_1, .int .i64 a0_2, .string (⟨#[]⟩ : ByteArray)]) ?_ 3 _ rfl; (with_reducible repeat (first | refine bn ?_ _ | refine bd ?_ | refine ba ?_ _)); refine blk_put (cs := #[.int .i64 a0_0, .int .i64 a0_1, .int .i64 0, .string (⟨#[]⟩ : ByteArray)]) ?_ 2 _ rfl; (with_reducible repeat (first | refine bn ?_ _ | refine bd ?_ | refine ba ?_ _)); refine blk_put (cs := #[.int .i64 a0_0, .int .i64 0, .int .i64 0, .string (⟨#[]⟩ : ByteArray)]) ?_ 1 _ rfl; (with_reducible repeat (first | refine bn ?_ _ | refine bd ?_ | refine ba ?_ _)); refine blk_put (cs := #[.int .i64 0, .int .i64 0, .int .i64 0, .string (⟨#[]⟩ : ByteArray)]) ?_ 0 _ rfl; (with_reducible repeat (first | refine bn ?_ _ | refine bd ?_ | refine ba ?_ _)); exact BK556.out) hb); have n2_ := Am (blk_below (g := gb557) (o := .cells #[.int .i64 a0_4, .int .i64 a0_5, .int .i64 a0_6, .string a0_7] 23 (0, 0)) (by (with_reducible repeat (first | refine bn ?_ _ | refine bd ?_ | refine ba ?_ _)); refine blk_put (cs := #[.int .i64 a0_4, .int .i64 a0_5, .int .i64 a0_6, .string (⟨#[]⟩ : ByteArray)]) ?_ 3 _ rfl; (with_reducible repeat (first | refine bn ?_ _ | refine bd ?_ | refine ba ?_ _)); refine blk_put (cs := #[.int .i64 a0_4, .int .i64 a0_5, .int .i64 0, .string (⟨#[]⟩ : ByteArray)]) ?_ 2 _ rfl; (with_reducible repeat (first | refine bn ?_ _ | refine bd ?_ | refine ba ?_ _)); refine blk_put (cs := #[.int .i64 a0_4, .int .i64 0, .int .i64 0, .string (⟨#[]⟩ : ByteArray)]) ?_ 1 _ rfl; (with_reducible repeat (first | refine bn ?_ _ | refine bd ?_ | refine ba ?_ _)); refine blk_put (cs := #[.int .i64 0, .int .i64 0, .int .i64 0, .string (⟨#[]⟩ : ByteArray)]) ?_ 0 _ rfl; (with_reducible repeat (first | refine bn ?_ _ | refine bd ?_ | refine ba ?_ _)); refine blk_far ?_ NB557_556.out _; (with_reducible repeat (first | refine bn ?_ _ | refine bd ?_ | refine ba ?_ _)); refine blk_far ?_ NB557_556.out _; (with_reducible repeat (first | refine bn ?_ _ | refine bd ?_ | refine ba ?_ _)); refine blk_far ?_ NB557_556.out _; (with_reducible repeat (first | refine bn ?_ _ | refine bd ?_ | refine ba ?_ _)); refine blk_far ?_ NB557_556.out _; (with_reducible repeat (first | refine bn ?_ _ | refine bd ?_ | refine ba ?_ _)); exact BK557.out) hb); have n3_ := Am (below_step (by repeat (first | (with_reducible first | exact HB.out | apply bl | apply pN | apply b1 | refine bs ?_ GE555.out | refine bs ?_ GE556.out | refine bs ?_ GE557.out) | exact HB.out | exact HBo.out)) hb); clear BK555; clear BK556; clear BK557; clear HB; have BK555 := n0_; have BK556 := n1_; have BK557 := n2_; have HB := n3_; clear n0_ n1_ n2_ n3_; (try clear hb); (try clear hb2); (try clear hk); (try clear hi); have hnb27 := NB556_555.out; have hnc27 := NB555_556.out; have hnb28 := NB556_557.out; have hnc28 := NB557_556.out; have hcz29_0 : w26.cell? ⟨gb556, 0, none⟩ = some (.int .i64 a0_0) := (bc BK556.out 0).trans rfl; have hcz29_1 : w26.cell? ⟨gb556, 1, none⟩ = some (.int .i64 a0_1) := (bc BK556.out 1).trans rfl; have hcz29_2 : w26.cell? ⟨gb556, 2, none⟩ = some (.int .i64 a0_2) := (bc BK556.out 2).trans rfl; have hcz29_3 : w26.cell? ⟨gb556, 3, none⟩ = some (.string a0_3) := (bc BK556.out 3).trans rfl; have hfz29_0 := bf BK556.out 0; have hfz29_1 := bf BK556.out 1; have hfz29_2 := bf BK556.out 2; have hfz29_3 := bf BK556.out 3; have hnb30 := NB557_555.out; have hnc30 := NB555_557.out; have hcz31_0 : w26.cell? ⟨gb557, 0, none⟩ = some (.int .i64 a0_4) := (bc BK557.out 0).trans rfl; have hcz31_1 : w26.cell? ⟨gb557, 1, none⟩ = some (.int .i64 a0_5) := (bc BK557.out 1).trans rfl; have hcz31_2 : w26.cell? ⟨gb557, 2, none⟩ = some (.int .i64 a0_6) := (bc BK557.out 2).trans rfl; have hcz31_3 : w26.cell? ⟨gb557, 3, none⟩ = some (.string a0_7) := (bc BK557.out 3).trans rfl; have hfz31_0 := bf BK557.out 0; have hfz31_1 := bf BK557.out 1; have hfz31_2 := bf BK557.out 2; have hfz31_3 := bf BK557.out 3))
     go_meet
     case rel => exact ⟨_, (true), (by first | rfl | (simp; done) | (simp [*]; done)), H', ⟨by first | omega | exact Nat.le_refl _⟩, ⟨by (with_reducible repeat (first | refine bn ?_ _ | refine bd ?_ | refine ba ?_ _)); exact BK555.out⟩, ⟨by (with_reducible repeat (first | refine bn ?_ _ | refine bd ?_ | refine ba ?_ _)); exact BK556.out⟩, ⟨by (with_reducible repeat (first | refine bn ?_ _ | refine bd ?_ | refine ba ?_ _)); exact BK557.out⟩, ⟨by repeat (first | (with_reducible first | exact HB.out | apply bl | apply pN | apply b1 | refine bs ?_ GE555.out | refine bs ?_ GE556.out | refine bs ?_ GE557.out) | exact HB.out | exact HBo.out)⟩⟩
    ·
     rw [if_neg c25] at H
     have c25b0 : decide (3000 < (a0_7.size : Int)) = false := decide_eq_false c25
     have c25b1 : decide (3000 < a0_7.size) = false := decide_eq_false (by omega)
     clear c25
     have H' := Am H
     clear H
     go_wp2_with (first | ((with_reducible refine gate_callee (f := 8) rfl ?_); refine goesL_ (some 26) rfl rfl Try.func8 (by kernel_rfl) rfl #[] rfl (by (try simp only [List.map_toArray, List.map_cons, List.map_nil]); first | done | rfl | (simp only [List.length_drop, List.length_take]; rfl)) ?_; (with_reducible refine (shuttlecocklaw05_fixed.calls k  true _ A18.out).mono ?_); rintro e w32 ⟨rfl, hb⟩; refine ⟨_, rfl, ?_⟩; have n0_ := Am (blk_below (g := gb555) (o := .cells #[.int .i64 a0_0, .int .i64 a0_1, .int .i64 a0_2, .string a0_3, .int .i64 a0_4, .int .i64 a0_5, .int .i64 a0_6, .string a0_7] 37 (0, 0)) (by (with_reducible repeat (first | refine bn ?_ _ | refine bd ?_ | refine ba ?_ _)); refine blk_far ?_ NB555_557.out _; (with_reducible repeat (first | refine bn ?_ _ | refine bd ?_ | refine ba ?_ _)); refine blk_far ?_ NB555_557.out _; (with_reducible repeat (first | refine bn ?_ _ | refine bd ?_ | refine ba ?_ _)); refine blk_far ?_ NB555_557.out _; (with_reducible repeat (first | refine bn ?_ _ | refine bd ?_ | refine ba ?_ _)); refine blk_far ?_ NB555_557.out _; (with_reducible repeat (first | refine bn ?_ _ | refine bd ?_ | refine ba ?_ _)); refine blk_far ?_ NB555_556.out _; (with_reducible repeat (first | refine bn ?_ _ | refine bd ?_ | refine ba ?_ _)); refine blk_far ?_ NB555_556.out _; (with_reducible repeat (first | refine bn ?_ _ | refine bd ?_ | refine ba ?_ _)); refine blk_far ?_ NB555_556.out _; (with_reducible repeat (first | refine bn ?_ _ | refine bd ?_ | refine ba ?_ _)); refine blk_far ?_ NB555_556.out _; (with_reducible repeat (first | refine bn ?_ _ | refine bd ?_ | refine ba ?_ _)); exact BK555.out) hb); have n1_ := Am (blk_below (g := gb556) (o := .cells #[.int .i64 a0_0, .int .i64 a0_1, .int .i64 a0_2, .string a0_3] 23 (0, 0)) (by (with_reducible repeat (first | refine bn ?_ _ | refine bd ?_ | refine ba ?_ _)); refine blk_far ?_ NB556_557.out _; (with_reducible repeat (first | refine bn ?_ _ | refine bd ?_ | refine ba ?_ _)); refine blk_far ?_ NB556_557.out _; (with_reducible repeat (first | refine bn ?_ _ | refine bd ?_ | refine ba ?_ _)); refine blk_far ?_ NB556_557.out _; (with_reducible repeat (first | refine bn ?_ _ | refine bd ?_ | refine ba ?_ _)); refine blk_far ?_ NB556_557.out _; (with_reducible repeat (first | refine bn ?_ _ | refine bd ?_ | refine ba ?_ _)); refine blk_put (cs := #[.int .i64 a0_0, .int .i64 a0_1, .int .i64 a0_2, .string (⟨#[]⟩ : ByteArray)]) ?_ 3 _ rfl; (with_reducible repeat (first | refine bn ?_ _ | refine bd ?_ | refine ba ?_ _)); refine blk_put (cs := #[.int .i64 a0_0, .int .i64 a0_1, .int .i64 0, .string (⟨#[]⟩ : ByteArray)]) ?_ 2 _ rfl; (with_reducible repeat (first | refine bn ?_ _ | refine bd ?_ | refine ba ?_ _)); refine blk_put (cs := #[.int .i64 a0_0, .int .i64 0, .int .i64 0, .string (⟨#[]⟩ : ByteArray)]) ?_ 1 _ rfl; (with_reducible repeat (first | refine bn ?_ _ | refine bd ?_ | refine ba ?_ _)); refine blk_put (cs := #[.int .i64 0, .int .i64 0, .int .i64 0, .string (⟨#[]⟩ : ByteArray)]) ?_ 0 _ rfl; (with_reducible repeat (first | refine bn ?_ _ | refine bd ?_ | refine ba ?_ _)); exact BK556.out) hb); have n2_ := Am (blk_below (g := gb557) (o := .cells #[.int .i64 a0_4, .int .i64 a0_5, .int .i64 a0_6, .string a0_7] 23 (0, 0)) (by (with_reducible repeat (first | refine bn ?_ _ | refine bd ?_ | refine ba ?_ _)); refine blk_put (cs := #[.int .i64 a0_4, .int .i64 a0_5, .int .i64 a0_6, .string (⟨#[]⟩ : ByteArray)]) ?_ 3 _ rfl; (with_reducible repeat (first | refine bn ?_ _ | refine bd ?_ | refine ba ?_ _)); refine blk_put (cs := #[.int .i64 a0_4, .int .i64 a0_5, .int .i64 0, .string (⟨#[]⟩ : ByteArray)]) ?_ 2 _ rfl; (with_reducible repeat (first | refine bn ?_ _ | refine bd ?_ | refine ba ?_ _)); refine blk_put (cs := #[.int .i64 a0_4, .int .i64 0, .int .i64 0, .string (⟨#[]⟩ : ByteArray)]) ?_ 1 _ rfl; (with_reducible repeat (first | refine bn ?_ _ | refine bd ?_ | refine ba ?_ _)); refine blk_put (cs := #[.int .i64 0, .int .i64 0, .int .i64 0, .string (⟨#[]⟩ : ByteArray)]) ?_ 0 _ rfl; (with_reducible repeat (first | refine bn ?_ _ | refine bd ?_ | refine ba ?_ _)); refine blk_far ?_ NB557_556.out _; (with_reducible repeat (first | refine bn ?_ _ | refine bd ?_ | refine ba ?_ _)); refine blk_far ?_ NB557_556.out _; (with_reducible repeat (first | refine bn ?_ _ | refine bd ?_ | refine ba ?_ _)); refine blk_far ?_ NB557_556.out _; (with_reducible repeat (first | refine bn ?_ _ | refine bd ?_ | refine ba ?_ _)); refine blk_far ?_ NB557_556.out _; (with_reducible repeat (first | refine bn ?_ _ | refine bd ?_ | refine ba ?_ _)); exact BK557.out) hb); have n3_ := Am (below_step (by repeat (first | (with_reducible first | exact HB.out | apply bl | apply pN | apply b1 | refine bs ?_ GE555.out | refine bs ?_ GE556.out | refine bs ?_ GE557.out) | exact HB.out | exact HBo.out)) hb); clear BK555; clear BK556; clear BK557; clear HB; have BK555 := n0_; have BK556 := n1_; have BK557 := n2_; have HB := n3_; clear n0_ n1_ n2_ n3_; (try clear hb); (try clear hb2); (try clear hk); (try clear hi); have hnb33 := NB556_555.out; have hnc33 := NB555_556.out; have hnb34 := NB556_557.out; have hnc34 := NB557_556.out; have hcz35_0 : w32.cell? ⟨gb556, 0, none⟩ = some (.int .i64 a0_0) := (bc BK556.out 0).trans rfl; have hcz35_1 : w32.cell? ⟨gb556, 1, none⟩ = some (.int .i64 a0_1) := (bc BK556.out 1).trans rfl; have hcz35_2 : w32.cell? ⟨gb556, 2, none⟩ = some (.int .i64 a0_2) := (bc BK556.out 2).trans rfl; have hcz35_3 : w32.cell? ⟨gb556, 3, none⟩ = some (.string a0_3) := (bc BK556.out 3).trans rfl; have hfz35_0 := bf BK556.out 0; have hfz35_1 := bf BK556.out 1; have hfz35_2 := bf BK556.out 2; have hfz35_3 := bf BK556.out 3; have hnb36 := NB557_555.out; have hnc36 := NB555_557.out; have hcz37_0 : w32.cell? ⟨gb557, 0, none⟩ = some (.int .i64 a0_4) := (bc BK557.out 0).trans rfl; have hcz37_1 : w32.cell? ⟨gb557, 1, none⟩ = some (.int .i64 a0_5) := (bc BK557.out 1).trans rfl; have hcz37_2 : w32.cell? ⟨gb557, 2, none⟩ = some (.int .i64 a0_6) := (bc BK557.out 2).trans rfl; have hcz37_3 : w32.cell? ⟨gb557, 3, none⟩ = some (.string a0_7) := (bc BK557.out 3).trans rfl; have hfz37_0 := bf BK557.out 0; have hfz37_1 := bf BK557.out 1; have hfz37_2 := bf BK557.out 2; have hfz37_3 := bf BK557.out 3))
     go_meet
     case rel => exact ⟨_, (decide ((a1.size : Int) > 5000)), (by first | rfl | (simp; done) | (simp [*]; done)), H', ⟨by first | omega | exact Nat.le_refl _⟩, ⟨by (with_reducible repeat (first | refine bn ?_ _ | refine bd ?_ | refine ba ?_ _)); exact BK555.out⟩, ⟨by (with_reducible repeat (first | refine bn ?_ _ | refine bd ?_ | refine ba ?_ _)); exact BK556.out⟩, ⟨by (with_reducible repeat (first | refine bn ?_ _ | refine bd ?_ | refine ba ?_ _)); exact BK557.out⟩, ⟨by repeat (first | (with_reducible first | exact HB.out | apply bl | apply pN | apply b1 | refine bs ?_ GE555.out | refine bs ?_ GE556.out | refine bs ?_ GE557.out) | exact HB.out | exact HBo.out)⟩⟩
  ·
   replace c19 := Bool.eq_false_iff.mpr c19
   subst c19
   have H1 : (shuttlecocklaw05_BatchBack.j0 k a1 a2 true a0_0 a0_1 a0_2 a0_3 a0_4 a0_5 a0_6 a0_7) = some r := by rw [if_neg (show ¬ (false = true) by decide)] at H; exact H
   clear H
   have H := H1
   clear H1
   have H' := Am H
   clear H
   go_wp2_with (first | ((with_reducible refine gate_callee (f := 8) rfl ?_); refine goesL_ (some 26) rfl rfl Try.func8 (by kernel_rfl) rfl #[] rfl (by (try simp only [List.map_toArray, List.map_cons, List.map_nil]); first | done | rfl | (simp only [List.length_drop, List.length_take]; rfl)) ?_; (with_reducible refine (shuttlecocklaw05_fixed.calls k  false _ A18.out).mono ?_); rintro e w38 ⟨rfl, hb⟩; refine ⟨_, rfl, ?_⟩; have n0_ := Am (blk_below (g := gb555) (o := .cells #[.int .i64 a0_0, .int .i64 a0_1, .int .i64 a0_2, .string a0_3, .int .i64 a0_4, .int .i64 a0_5, .int .i64 a0_6, .string a0_7] 37 (0, 0)) (by (with_reducible repeat (first | refine bn ?_ _ | refine bd ?_ | refine ba ?_ _)); refine blk_far ?_ NB555_557.out _; (with_reducible repeat (first | refine bn ?_ _ | refine bd ?_ | refine ba ?_ _)); refine blk_far ?_ NB555_557.out _; (with_reducible repeat (first | refine bn ?_ _ | refine bd ?_ | refine ba ?_ _)); refine blk_far ?_ NB555_557.out _; (with_reducible repeat (first | refine bn ?_ _ | refine bd ?_ | refine ba ?_ _)); refine blk_far ?_ NB555_557.out _; (with_reducible repeat (first | refine bn ?_ _ | refine bd ?_ | refine ba ?_ _)); refine blk_far ?_ NB555_556.out _; (with_reducible repeat (first | refine bn ?_ _ | refine bd ?_ | refine ba ?_ _)); refine blk_far ?_ NB555_556.out _; (with_reducible repeat (first | refine bn ?_ _ | refine bd ?_ | refine ba ?_ _)); refine blk_far ?_ NB555_556.out _; (with_reducible repeat (first | refine bn ?_ _ | refine bd ?_ | refine ba ?_ _)); refine blk_far ?_ NB555_556.out _; (with_reducible repeat (first | refine bn ?_ _ | refine bd ?_ | refine ba ?_ _)); exact BK555.out) hb); have n1_ := Am (blk_below (g := gb556) (o := .cells #[.int .i64 a0_0, .int .i64 a0_1, .int .i64 a0_2, .string a0_3] 23 (0, 0)) (by (with_reducible repeat (first | refine bn ?_ _ | refine bd ?_ | refine ba ?_ _)); refine blk_far ?_ NB556_557.out _; (with_reducible repeat (first | refine bn ?_ _ | refine bd ?_ | refine ba ?_ _)); refine blk_far ?_ NB556_557.out _; (with_reducible repeat (first | refine bn ?_ _ | refine bd ?_ | refine ba ?_ _)); refine blk_far ?_ NB556_557.out _; (with_reducible repeat (first | refine bn ?_ _ | refine bd ?_ | refine ba ?_ _)); refine blk_far ?_ NB556_557.out _; (with_reducible repeat (first | refine bn ?_ _ | refine bd ?_ | refine ba ?_ _)); refine blk_put (cs := #[.int .i64 a0_0, .int .i64 a0_1, .int .i64 a0_2, .string (⟨#[]⟩ : ByteArray)]) ?_ 3 _ rfl; (with_reducible repeat (first | refine bn ?_ _ | refine bd ?_ | refine ba ?_ _)); refine blk_put (cs := #[.int .i64 a0_0, .int .i64 a0_1, .int .i64 0, .string (⟨#[]⟩ : ByteArray)]) ?_ 2 _ rfl; (with_reducible repeat (first | refine bn ?_ _ | refine bd ?_ | refine ba ?_ _)); refine blk_put (cs := #[.int .i64 a0_0, .int .i64 0, .int .i64 0, .string (⟨#[]⟩ : ByteArray)]) ?_ 1 _ rfl; (with_reducible repeat (first | refine bn ?_ _ | refine bd ?_ | refine ba ?_ _)); refine blk_put (cs := #[.int .i64 0, .int .i64 0, .int .i64 0, .string (⟨#[]⟩ : ByteArray)]) ?_ 0 _ rfl; (with_reducible repeat (first | refine bn ?_ _ | refine bd ?_ | refine ba ?_ _)); exact BK556.out) hb); have n2_ := Am (blk_below (g := gb557) (o := .cells #[.int .i64 a0_4, .int .i64 a0_5, .int .i64 a0_6, .string a0_7] 23 (0, 0)) (by (with_reducible repeat (first | refine bn ?_ _ | refine bd ?_ | refine ba ?_ _)); refine blk_put (cs := #[.int .i64 a0_4, .int .i64 a0_5, .int .i64 a0_6, .string (⟨#[]⟩ : ByteArray)]) ?_ 3 _ rfl; (with_reducible repeat (first | refine bn ?_ _ | refine bd ?_ | refine ba ?_ _)); refine blk_put (cs := #[.int .i64 a0_4, .int .i64 a0_5, .int .i64 0, .string (⟨#[]⟩ : ByteArray)]) ?_ 2 _ rfl; (with_reducible repeat (first | refine bn ?_ _ | refine bd ?_ | refine ba ?_ _)); refine blk_put (cs := #[.int .i64 a0_4, .int .i64 0, .int .i64 0, .string (⟨#[]⟩ : ByteArray)]) ?_ 1 _ rfl; (with_reducible repeat (first | refine bn ?_ _ | refine bd ?_ | refine ba ?_ _)); refine blk_put (cs := #[.int .i64 0, .int .i64 0, .int .i64 0, .string (⟨#[]⟩ : ByteArray)]) ?_ 0 _ rfl; (with_reducible repeat (first | refine bn ?_ _ | refine bd ?_ | refine ba ?_ _)); refine blk_far ?_ NB557_556.out _; (with_reducible repeat (first | refine bn ?_ _ | refine bd ?_ | refine ba ?_ _)); refine blk_far ?_ NB557_556.out _; (with_reducible repeat (first | refine bn ?_ _ | refine bd ?_ | refine ba ?_ _)); refine blk_far ?_ NB557_556.out _; (with_reducible repeat (first | refine bn ?_ _ | refine bd ?_ | refine ba ?_ _)); refine blk_far ?_ NB557_556.out _; (with_reducible repeat (first | refine bn ?_ _ | refine bd ?_ | refine ba ?_ _)); exact BK557.out) hb); have n3_ := Am (below_step (by repeat (first | (with_reducible first | exact HB.out | apply bl | apply pN | apply b1 | refine bs ?_ GE555.out | refine bs ?_ GE556.out | refine bs ?_ GE557.out) | exact HB.out | exact HBo.out)) hb); clear BK555; clear BK556; clear BK557; clear HB; have BK555 := n0_; have BK556 := n1_; have BK557 := n2_; have HB := n3_; clear n0_ n1_ n2_ n3_; (try clear hb); (try clear hb2); (try clear hk); (try clear hi)))
   go_meet
   case rel => exact ⟨_, (true), (by first | rfl | (simp; done) | (simp [*]; done)), H', ⟨by first | omega | exact Nat.le_refl _⟩, ⟨by (with_reducible repeat (first | refine bn ?_ _ | refine bd ?_ | refine ba ?_ _)); exact BK555.out⟩, ⟨by (with_reducible repeat (first | refine bn ?_ _ | refine bd ?_ | refine ba ?_ _)); exact BK556.out⟩, ⟨by (with_reducible repeat (first | refine bn ?_ _ | refine bd ?_ | refine ba ?_ _)); exact BK557.out⟩, ⟨by repeat (first | (with_reducible first | exact HB.out | apply bl | apply pN | apply b1 | refine bs ?_ GE555.out | refine bs ?_ GE556.out | refine bs ?_ GE557.out) | exact HB.out | exact HBo.out)⟩⟩
 case rest =>
  clear HC4
  try clear c1
  try clear c2
  try clear p2
  try clear c3
  try clear c4
  try clear c8
  try clear c19
  try clear c20
  try clear c20b0
  try clear c20b1
  try clear c22
  try clear c23
  try clear c25
  try clear c25b0
  try clear c25b1
  try clear c27
  try clear c28
  try clear c30
  try clear c33
  try clear c34
  try clear c36
  try clear hcz24_0
  try clear hcz24_1
  try clear hcz24_2
  try clear hcz24_3
  try clear hcz29_0
  try clear hcz29_1
  try clear hcz29_2
  try clear hcz29_3
  try clear hcz31_0
  try clear hcz31_1
  try clear hcz31_2
  try clear hcz31_3
  try clear hcz35_0
  try clear hcz35_1
  try clear hcz35_2
  try clear hcz35_3
  try clear hcz37_0
  try clear hcz37_1
  try clear hcz37_2
  try clear hcz37_3
  try clear hfz24_0
  try clear hfz24_1
  try clear hfz24_2
  try clear hfz24_3
  try clear hfz29_0
  try clear hfz29_1
  try clear hfz29_2
  try clear hfz29_3
  try clear hfz31_0
  try clear hfz31_1
  try clear hfz31_2
  try clear hfz31_3
  try clear hfz35_0
  try clear hfz35_1
  try clear hfz35_2
  try clear hfz35_3
  try clear hfz37_0
  try clear hfz37_1
  try clear hfz37_2
  try clear hfz37_3
  obtain ⟨kq, x44_3, rfl, HA, HJ3, BK555, BK556, BK557, HB⟩ := hcut
  cases kq with
  | zero => exact absurd HA.out (by simp [shuttlecocklaw05_BatchBack.j0])
  | succ kj3 =>
   have H := HA.out
   clear HA
   simp only [shuttlecocklaw05_BatchBack.j0] at H
   by_cases c39 : x44_3 = true
   ·
    subst c39
    have H1 : ((shuttlecocklaw05_fixed.f kj3).bind fun t559 => (some t559)) = some r := by rw [if_pos rfl] at H; exact H
    clear H
    have H := H1
    clear H1
    replace H := ob H
    obtain ⟨t559, A400, H⟩ := H
    replace H : (some t559) = some r := H
    have A40 := Am A400
    clear A400
    obtain rfl := Option.some.inj H
    go_wp2_with (first | ((with_reducible refine gate_callee (f := 8) rfl ?_); refine goesL_ (some 45) rfl rfl Try.func8 (by kernel_rfl) rfl #[] rfl (by (try simp only [List.map_toArray, List.map_cons, List.map_nil]); first | done | rfl | (simp only [List.length_drop, List.length_take]; rfl)) ?_; (with_reducible refine (shuttlecocklaw05_fixed.calls kj3  t559 _ A40.out).mono ?_); rintro e w41 ⟨rfl, hb⟩; refine ⟨_, rfl, ?_⟩; have n0_ := Am (blk_below (g := gb555) (o := .cells #[.int .i64 a0_0, .int .i64 a0_1, .int .i64 a0_2, .string a0_3, .int .i64 a0_4, .int .i64 a0_5, .int .i64 a0_6, .string a0_7] 37 (0, 0)) (by (with_reducible repeat (first | refine bn ?_ _ | refine bd ?_ | refine ba ?_ _)); exact BK555.out) hb); have n1_ := Am (blk_below (g := gb556) (o := .cells #[.int .i64 a0_0, .int .i64 a0_1, .int .i64 a0_2, .string a0_3] 23 (0, 0)) (by (with_reducible repeat (first | refine bn ?_ _ | refine bd ?_ | refine ba ?_ _)); exact BK556.out) hb); have n2_ := Am (blk_below (g := gb557) (o := .cells #[.int .i64 a0_4, .int .i64 a0_5, .int .i64 a0_6, .string a0_7] 23 (0, 0)) (by (with_reducible repeat (first | refine bn ?_ _ | refine bd ?_ | refine ba ?_ _)); exact BK557.out) hb); have n3_ := Am (below_step (by repeat (first | (with_reducible first | exact HB.out | apply bl | apply pN | apply b1 | refine bs ?_ GE555.out | refine bs ?_ GE556.out | refine bs ?_ GE557.out) | exact HB.out | exact HBo.out)) hb); clear BK555; clear BK556; clear BK557; clear HB; have BK555 := n0_; have BK556 := n1_; have BK557 := n2_; have HB := n3_; clear n0_ n1_ n2_ n3_; (try clear hb); (try clear hb2); (try clear hk); (try clear hi)))
    go_ret
    exact ⟨by first | rfl | (simp [errW_none, errW_some] <;> rfl) | (simp [*, errW_none, errW_some] <;> rfl) | (simp [Aid.ne_nil, Aid.eq_nil, errW_none, errW_some]; done), by repeat (first | (with_reducible first | exact HB.out | apply bl | apply pN | apply b1 | refine bs ?_ GE555.out | refine bs ?_ GE556.out | refine bs ?_ GE557.out) | exact HB.out | exact HBo.out)⟩
   ·
    replace c39 := Bool.eq_false_iff.mpr c39
    subst c39
    have H1 : ((batch_Decode.f kj3 a1 0).bind fun bt560 => (if bt560.2.2.2.2.2 = 0 then ((batch_May.f bt560.1 bt560.2.1 bt560.2.2.1 bt560.2.2.2.1).bind fun t567 => (if t567 = true then (if bt560.2.2.2.2.1 > (a1.size : Int) then (shuttlecocklaw05_BatchBack.j1 kj3 a2 true a0_0 a0_1 a0_2 a0_3 a0_4 a0_5 a0_6 a0_7) else ((batch_Encode.f kj3 bt560.1 bt560.2.1 bt560.2.2.1 bt560.2.2.2.1).bind fun t568 => (if 0 ≤ (mn bt560.2.2.2.2.1 (a1.size : Int)) then (if (mn bt560.2.2.2.2.1 (a1.size : Int)) ≤ (a1.size : Int) then (shuttlecocklaw05_BatchBack.j1 kj3 a2 (t568.toList != (a1.extract 0 ((mn bt560.2.2.2.2.1 (a1.size : Int)) : Int).toNat).toList) a0_0 a0_1 a0_2 a0_3 a0_4 a0_5 a0_6 a0_7) else (none)) else (none)))) else (shuttlecocklaw05_BatchBack.j1 kj3 a2 true a0_0 a0_1 a0_2 a0_3 a0_4 a0_5 a0_6 a0_7))) else (shuttlecocklaw05_BatchBack.j1 kj3 a2 false a0_0 a0_1 a0_2 a0_3 a0_4 a0_5 a0_6 a0_7))) = some r := by rw [if_neg (show ¬ (false = true) by decide)] at H; exact H
    clear H
    have H := H1
    clear H1
    replace H := ob H
    obtain ⟨⟨t560, t561, t562, t563, t564, t565⟩, A420, H⟩ := H
    replace H : (if t565 = 0 then ((batch_May.f t560 t561 t562 t563).bind fun t567 => (if t567 = true then (if t564 > (a1.size : Int) then (shuttlecocklaw05_BatchBack.j1 kj3 a2 true a0_0 a0_1 a0_2 a0_3 a0_4 a0_5 a0_6 a0_7) else ((batch_Encode.f kj3 t560 t561 t562 t563).bind fun t568 => (if 0 ≤ (mn t564 (a1.size : Int)) then (if (mn t564 (a1.size : Int)) ≤ (a1.size : Int) then (shuttlecocklaw05_BatchBack.j1 kj3 a2 (t568.toList != (a1.extract 0 ((mn t564 (a1.size : Int)) : Int).toNat).toList) a0_0 a0_1 a0_2 a0_3 a0_4 a0_5 a0_6 a0_7) else (none)) else (none)))) else (shuttlecocklaw05_BatchBack.j1 kj3 a2 true a0_0 a0_1 a0_2 a0_3 a0_4 a0_5 a0_6 a0_7))) else (shuttlecocklaw05_BatchBack.j1 kj3 a2 false a0_0 a0_1 a0_2 a0_3 a0_4 a0_5 a0_6 a0_7)) = some r := H
    have A42 := Am A420
    clear A420
    have HC43 := Am H
    clear H
    go_upto_region 5 with (first | ((with_reducible refine gate_callee (f := 9) rfl ?_); refine goesL_ (some 48) rfl rfl Try.func9 (by kernel_rfl) rfl #[.string a1, .int .i64 0] rfl (by (try simp only [List.map_toArray, List.map_cons, List.map_nil]); first | done | rfl | (simp only [List.length_drop, List.length_take]; rfl)) ?_; (with_reducible refine (batch_Decode.calls kj3 a1 0 t560 t561 t562 t563 t564 t565 _ A42.out).mono ?_); rintro e w44 ⟨rfl, hb⟩; refine ⟨_, rfl, ?_⟩; have n0_ := Am (blk_below (g := gb555) (o := .cells #[.int .i64 a0_0, .int .i64 a0_1, .int .i64 a0_2, .string a0_3, .int .i64 a0_4, .int .i64 a0_5, .int .i64 a0_6, .string a0_7] 37 (0, 0)) (by (with_reducible repeat (first | refine bn ?_ _ | refine bd ?_ | refine ba ?_ _)); exact BK555.out) hb); have n1_ := Am (blk_below (g := gb556) (o := .cells #[.int .i64 a0_0, .int .i64 a0_1, .int .i64 a0_2, .string a0_3] 23 (0, 0)) (by (with_reducible repeat (first | refine bn ?_ _ | refine bd ?_ | refine ba ?_ _)); exact BK556.out) hb); have n2_ := Am (blk_below (g := gb557) (o := .cells #[.int .i64 a0_4, .int .i64 a0_5, .int .i64 a0_6, .string a0_7] 23 (0, 0)) (by (with_reducible repeat (first | refine bn ?_ _ | refine bd ?_ | refine ba ?_ _)); exact BK557.out) hb); have n3_ := Am (below_step (by repeat (first | (with_reducible first | exact HB.out | apply bl | apply pN | apply b1 | refine bs ?_ GE555.out | refine bs ?_ GE556.out | refine bs ?_ GE557.out) | exact HB.out | exact HBo.out)) hb); clear BK555; clear BK556; clear BK557; clear HB; have BK555 := n0_; have BK556 := n1_; have BK557 := n2_; have HB := n3_; clear n0_ n1_ n2_ n3_; (try clear hb); (try clear hb2); (try clear hk); (try clear hi)) | ((with_reducible refine gate_dst (N := 9) rfl ?_); (try (refine gate_guard (by rfl) ?_; dsimp only)); refine box_event ?hg (N := 9) ?hd (cs := #[.int .i64 0, .int .i64 0, .int .i64 0, .string (⟨#[]⟩ : ByteArray)]) (t := 23) ?hr ?_; (case hd => rfl); (case hg => rfl); (case hr => first | (go_simp; done) | (go_simp; rfl)); intro gb566 hg w45 hbox hb; have n0_ := Am (blk_below (g := gb555) (o := .cells #[.int .i64 a0_0, .int .i64 a0_1, .int .i64 a0_2, .string a0_3, .int .i64 a0_4, .int .i64 a0_5, .int .i64 a0_6, .string a0_7] 37 (0, 0)) (by (with_reducible repeat (first | refine bn ?_ _ | refine bd ?_ | refine ba ?_ _)); exact BK555.out) hb); have n1_ := Am (blk_below (g := gb556) (o := .cells #[.int .i64 a0_0, .int .i64 a0_1, .int .i64 a0_2, .string a0_3] 23 (0, 0)) (by (with_reducible repeat (first | refine bn ?_ _ | refine bd ?_ | refine ba ?_ _)); exact BK556.out) hb); have n2_ := Am (blk_below (g := gb557) (o := .cells #[.int .i64 a0_4, .int .i64 a0_5, .int .i64 a0_6, .string a0_7] 23 (0, 0)) (by (with_reducible repeat (first | refine bn ?_ _ | refine bd ?_ | refine ba ?_ _)); exact BK557.out) hb); have n3_ := Am (below_step (by repeat (first | (with_reducible first | exact HB.out | apply bl | apply pN | apply b1 | refine bs ?_ GE555.out | refine bs ?_ GE556.out | refine bs ?_ GE557.out) | exact HB.out | exact HBo.out)) hb); have n4_ := Am (hbox); have n5_ := Am ((by rw [hg]; exact (below_size (by repeat (first | (with_reducible first | exact HB.out | apply bl | apply pN | apply b1 | refine bs ?_ GE555.out | refine bs ?_ GE556.out | refine bs ?_ GE557.out) | exact HB.out | exact HBo.out))) : w.heap.size ≤ gb566)); have n6_ := Am ((by rw [hg]; exact (below_size (by repeat (first | (with_reducible first | exact HB.out | apply bl | apply pN | apply b1 | refine bs ?_ GE555.out | refine bs ?_ GE556.out | refine bs ?_ GE557.out) | exact HB.out | exact HBo.out))) : w.heap.size ≤ gb566)); have n7_ := Am ((by rw [hg]; exact Nat.ne_of_lt (blk_lt (g := gb555) (o := .cells #[.int .i64 a0_0, .int .i64 a0_1, .int .i64 a0_2, .string a0_3, .int .i64 a0_4, .int .i64 a0_5, .int .i64 a0_6, .string a0_7] 37 (0, 0)) (by (with_reducible repeat (first | refine bn ?_ _ | refine bd ?_ | refine ba ?_ _)); exact BK555.out)) : gb555 ≠ gb566)); have n8_ := Am ((by rw [hg]; exact Nat.ne_of_gt (blk_lt (g := gb555) (o := .cells #[.int .i64 a0_0, .int .i64 a0_1, .int .i64 a0_2, .string a0_3, .int .i64 a0_4, .int .i64 a0_5, .int .i64 a0_6, .string a0_7] 37 (0, 0)) (by (with_reducible repeat (first | refine bn ?_ _ | refine bd ?_ | refine ba ?_ _)); exact BK555.out)) : gb566 ≠ gb555)); have n9_ := Am ((by rw [hg]; exact Nat.ne_of_lt (blk_lt (g := gb556) (o := .cells #[.int .i64 a0_0, .int .i64 a0_1, .int .i64 a0_2, .string a0_3] 23 (0, 0)) (by (with_reducible repeat (first | refine bn ?_ _ | refine bd ?_ | refine ba ?_ _)); exact BK556.out)) : gb556 ≠ gb566)); have n10_ := Am ((by rw [hg]; exact Nat.ne_of_gt (blk_lt (g := gb556) (o := .cells #[.int .i64 a0_0, .int .i64 a0_1, .int .i64 a0_2, .string a0_3] 23 (0, 0)) (by (with_reducible repeat (first | refine bn ?_ _ | refine bd ?_ | refine ba ?_ _)); exact BK556.out)) : gb566 ≠ gb556)); have n11_ := Am ((by rw [hg]; exact Nat.ne_of_lt (blk_lt (g := gb557) (o := .cells #[.int .i64 a0_4, .int .i64 a0_5, .int .i64 a0_6, .string a0_7] 23 (0, 0)) (by (with_reducible repeat (first | refine bn ?_ _ | refine bd ?_ | refine ba ?_ _)); exact BK557.out)) : gb557 ≠ gb566)); have n12_ := Am ((by rw [hg]; exact Nat.ne_of_gt (blk_lt (g := gb557) (o := .cells #[.int .i64 a0_4, .int .i64 a0_5, .int .i64 a0_6, .string a0_7] 23 (0, 0)) (by (with_reducible repeat (first | refine bn ?_ _ | refine bd ?_ | refine ba ?_ _)); exact BK557.out)) : gb566 ≠ gb557)); clear BK555; clear BK556; clear BK557; clear HB; have BK555 := n0_; have BK556 := n1_; have BK557 := n2_; have HB := n3_; have BK566 := n4_; have GW566 := n5_; have GE566 := n6_; have NB555_566 := n7_; have NB566_555 := n8_; have NB556_566 := n9_; have NB566_556 := n10_; have NB557_566 := n11_; have NB566_557 := n12_; clear n0_ n1_ n2_ n3_ n4_ n5_ n6_ n7_ n8_ n9_ n10_ n11_ n12_; clear hb hbox hg; have hnb46 := NB566_555.out; have hnc46 := NB555_566.out; have hnb47 := NB566_556.out; have hnc47 := NB556_566.out; have hnb48 := NB566_557.out; have hnc48 := NB557_566.out; have hcz49_0 : w45.cell? ⟨gb566, 0, none⟩ = some (.int .i64 0) := (bc BK566.out 0).trans rfl; have hcz49_1 : w45.cell? ⟨gb566, 1, none⟩ = some (.int .i64 0) := (bc BK566.out 1).trans rfl; have hcz49_2 : w45.cell? ⟨gb566, 2, none⟩ = some (.int .i64 0) := (bc BK566.out 2).trans rfl; have hcz49_3 : w45.cell? ⟨gb566, 3, none⟩ = some (.string (⟨#[]⟩ : ByteArray)) := (bc BK566.out 3).trans rfl; have hfz49_0 := bf BK566.out 0; have hfz49_1 := bf BK566.out 1; have hfz49_2 := bf BK566.out 2; have hfz49_3 := bf BK566.out 3))
    (try simp only [Act.put, sI, sZ, sS])
    go_cut [75] (fun v75 wc => ∃ (kq : Nat) (x75_42 : Bool), v75 = .bool x75_42 ∧ Aside0 (shuttlecocklaw05_BatchBack.j1 kq a2 x75_42 a0_0 a0_1 a0_2 a0_3 a0_4 a0_5 a0_6 a0_7 = some r) ∧ Aside0 (kq ≤ kj3) ∧ Aside0 (wc.heap[gb555]? = some (.cells #[.int .i64 a0_0, .int .i64 a0_1, .int .i64 a0_2, .string a0_3, .int .i64 a0_4, .int .i64 a0_5, .int .i64 a0_6, .string a0_7] 37 (0, 0))) ∧ Aside0 (wc.heap[gb556]? = some (.cells #[.int .i64 a0_0, .int .i64 a0_1, .int .i64 a0_2, .string a0_3] 23 (0, 0))) ∧ Aside0 (wc.heap[gb557]? = some (.cells #[.int .i64 a0_4, .int .i64 a0_5, .int .i64 a0_6, .string a0_7] 23 (0, 0))) ∧ Aside0 (wc.heap[gb566]? = some (.cells #[.int .i64 t560, .int .i64 t561, .int .i64 t562, .string t563] 23 (0, 0))) ∧ Aside0 (Below w.heap.size w wc))
    case first =>
     have H := HC43.out
     clear HC43
     by_cases c50 : t565 = 0
     ·
      rw [if_pos c50] at H
      have c50b0 : (t565 == 0) = true := beq_iff_eq.mpr c50
      have c50b1 : (t565 != 0) = false := bne_eq_false_iff_eq.mpr c50
      clear c50
      (first | rw [c50b0] | (simp only [i64_w, i32_w]; rw [c50b0]) | skip)
      replace H := ob H
      obtain ⟨t567, A510, H⟩ := H
      replace H : (if t567 = true then (if t564 > (a1.size : Int) then (shuttlecocklaw05_BatchBack.j1 kj3 a2 true a0_0 a0_1 a0_2 a0_3 a0_4 a0_5 a0_6 a0_7) else ((batch_Encode.f kj3 t560 t561 t562 t563).bind fun t568 => (if 0 ≤ (mn t564 (a1.size : Int)) then (if (mn t564 (a1.size : Int)) ≤ (a1.size : Int) then (shuttlecocklaw05_BatchBack.j1 kj3 a2 (t568.toList != (a1.extract 0 ((mn t564 (a1.size : Int)) : Int).toNat).toList) a0_0 a0_1 a0_2 a0_3 a0_4 a0_5 a0_6 a0_7) else (none)) else (none)))) else (shuttlecocklaw05_BatchBack.j1 kj3 a2 true a0_0 a0_1 a0_2 a0_3 a0_4 a0_5 a0_6 a0_7)) = some r := H
      have A51 := Am A510
      clear A510
      by_cases c52 : t567 = true
      ·
       subst c52
       have H1 : (if t564 > (a1.size : Int) then (shuttlecocklaw05_BatchBack.j1 kj3 a2 true a0_0 a0_1 a0_2 a0_3 a0_4 a0_5 a0_6 a0_7) else ((batch_Encode.f kj3 t560 t561 t562 t563).bind fun t568 => (if 0 ≤ (mn t564 (a1.size : Int)) then (if (mn t564 (a1.size : Int)) ≤ (a1.size : Int) then (shuttlecocklaw05_BatchBack.j1 kj3 a2 (t568.toList != (a1.extract 0 ((mn t564 (a1.size : Int)) : Int).toNat).toList) a0_0 a0_1 a0_2 a0_3 a0_4 a0_5 a0_6 a0_7) else (none)) else (none)))) = some r := by rw [if_pos rfl] at H; exact H
       clear H
       have H := H1
       clear H1
       by_cases c53 : t564 > (a1.size : Int)
       ·
        rw [if_pos c53] at H
        have c53b0 : decide ((a1.size : Int) < t564) = true := decide_eq_true c53
        clear c53
        have H' := Am H
        clear H
        try go_wp2
        have n0_ : Aside0 (((((w45.setCell ⟨gb566, 0, none⟩ (.int .i64 t560)).setCell ⟨gb566, 1, none⟩ (.int .i64 t561)).setCell ⟨gb566, 2, none⟩ (.int .i64 t562)).setCell ⟨gb566, 3, none⟩ (.string t563)).heap[gb555]? = some (.cells #[.int .i64 a0_0, .int .i64 a0_1, .int .i64 a0_2, .string a0_3, .int .i64 a0_4, .int .i64 a0_5, .int .i64 a0_6, .string a0_7] 37 (0, 0))) := ⟨by (with_reducible repeat (first | refine bn ?_ _ | refine bd ?_ | refine ba ?_ _)); refine blk_far ?_ NB555_566.out _; (with_reducible repeat (first | refine bn ?_ _ | refine bd ?_ | refine ba ?_ _)); refine blk_far ?_ NB555_566.out _; (with_reducible repeat (first | refine bn ?_ _ | refine bd ?_ | refine ba ?_ _)); refine blk_far ?_ NB555_566.out _; (with_reducible repeat (first | refine bn ?_ _ | refine bd ?_ | refine ba ?_ _)); refine blk_far ?_ NB555_566.out _; (with_reducible repeat (first | refine bn ?_ _ | refine bd ?_ | refine ba ?_ _)); exact BK555.out⟩
        have n1_ : Aside0 (((((w45.setCell ⟨gb566, 0, none⟩ (.int .i64 t560)).setCell ⟨gb566, 1, none⟩ (.int .i64 t561)).setCell ⟨gb566, 2, none⟩ (.int .i64 t562)).setCell ⟨gb566, 3, none⟩ (.string t563)).heap[gb556]? = some (.cells #[.int .i64 a0_0, .int .i64 a0_1, .int .i64 a0_2, .string a0_3] 23 (0, 0))) := ⟨by (with_reducible repeat (first | refine bn ?_ _ | refine bd ?_ | refine ba ?_ _)); refine blk_far ?_ NB556_566.out _; (with_reducible repeat (first | refine bn ?_ _ | refine bd ?_ | refine ba ?_ _)); refine blk_far ?_ NB556_566.out _; (with_reducible repeat (first | refine bn ?_ _ | refine bd ?_ | refine ba ?_ _)); refine blk_far ?_ NB556_566.out _; (with_reducible repeat (first | refine bn ?_ _ | refine bd ?_ | refine ba ?_ _)); refine blk_far ?_ NB556_566.out _; (with_reducible repeat (first | refine bn ?_ _ | refine bd ?_ | refine ba ?_ _)); exact BK556.out⟩
        have n2_ : Aside0 (((((w45.setCell ⟨gb566, 0, none⟩ (.int .i64 t560)).setCell ⟨gb566, 1, none⟩ (.int .i64 t561)).setCell ⟨gb566, 2, none⟩ (.int .i64 t562)).setCell ⟨gb566, 3, none⟩ (.string t563)).heap[gb557]? = some (.cells #[.int .i64 a0_4, .int .i64 a0_5, .int .i64 a0_6, .string a0_7] 23 (0, 0))) := ⟨by (with_reducible repeat (first | refine bn ?_ _ | refine bd ?_ | refine ba ?_ _)); refine blk_far ?_ NB557_566.out _; (with_reducible repeat (first | refine bn ?_ _ | refine bd ?_ | refine ba ?_ _)); refine blk_far ?_ NB557_566.out _; (with_reducible repeat (first | refine bn ?_ _ | refine bd ?_ | refine ba ?_ _)); refine blk_far ?_ NB557_566.out _; (with_reducible repeat (first | refine bn ?_ _ | refine bd ?_ | refine ba ?_ _)); refine blk_far ?_ NB557_566.out _; (with_reducible repeat (first | refine bn ?_ _ | refine bd ?_ | refine ba ?_ _)); exact BK557.out⟩
        have n3_ : Aside0 (((((w45.setCell ⟨gb566, 0, none⟩ (.int .i64 t560)).setCell ⟨gb566, 1, none⟩ (.int .i64 t561)).setCell ⟨gb566, 2, none⟩ (.int .i64 t562)).setCell ⟨gb566, 3, none⟩ (.string t563)).heap[gb566]? = some (.cells #[.int .i64 t560, .int .i64 t561, .int .i64 t562, .string t563] 23 (0, 0))) := ⟨by (with_reducible repeat (first | refine bn ?_ _ | refine bd ?_ | refine ba ?_ _)); refine blk_put (cs := #[.int .i64 t560, .int .i64 t561, .int .i64 t562, .string (⟨#[]⟩ : ByteArray)]) ?_ 3 _ rfl; (with_reducible repeat (first | refine bn ?_ _ | refine bd ?_ | refine ba ?_ _)); refine blk_put (cs := #[.int .i64 t560, .int .i64 t561, .int .i64 0, .string (⟨#[]⟩ : ByteArray)]) ?_ 2 _ rfl; (with_reducible repeat (first | refine bn ?_ _ | refine bd ?_ | refine ba ?_ _)); refine blk_put (cs := #[.int .i64 t560, .int .i64 0, .int .i64 0, .string (⟨#[]⟩ : ByteArray)]) ?_ 1 _ rfl; (with_reducible repeat (first | refine bn ?_ _ | refine bd ?_ | refine ba ?_ _)); refine blk_put (cs := #[.int .i64 0, .int .i64 0, .int .i64 0, .string (⟨#[]⟩ : ByteArray)]) ?_ 0 _ rfl; (with_reducible repeat (first | refine bn ?_ _ | refine bd ?_ | refine ba ?_ _)); exact BK566.out⟩
        have n4_ : Aside0 (Below w.heap.size w ((((w45.setCell ⟨gb566, 0, none⟩ (.int .i64 t560)).setCell ⟨gb566, 1, none⟩ (.int .i64 t561)).setCell ⟨gb566, 2, none⟩ (.int .i64 t562)).setCell ⟨gb566, 3, none⟩ (.string t563))) := ⟨by repeat (first | (with_reducible first | exact HB.out | apply bl | apply pN | apply b1 | refine bs ?_ GE555.out | refine bs ?_ GE556.out | refine bs ?_ GE557.out | refine bs ?_ GE566.out) | exact HB.out | exact HBo.out)⟩
        (try clear BK555)
        (try clear BK556)
        (try clear BK557)
        (try clear BK566)
        (try clear HB)
        generalize ((((w45.setCell ⟨gb566, 0, none⟩ (.int .i64 t560)).setCell ⟨gb566, 1, none⟩ (.int .i64 t561)).setCell ⟨gb566, 2, none⟩ (.int .i64 t562)).setCell ⟨gb566, 3, none⟩ (.string t563)) = w54 at n0_ n1_ n2_ n3_ n4_ ⊢
        have BK555 := n0_
        have BK556 := n1_
        have BK557 := n2_
        have BK566 := n3_
        have HB := n4_
        clear n0_ n1_ n2_ n3_ n4_
        have n0_ := Am (bd BK555.out)
        have n1_ := Am (bd BK556.out)
        have n2_ := Am (bd BK557.out)
        have n3_ := Am (bd BK566.out)
        have n4_ := Am (b1 HB.out)
        clear BK555
        clear BK556
        clear BK557
        clear BK566
        clear HB
        have BK555 := n0_
        have BK556 := n1_
        have BK557 := n2_
        have BK566 := n3_
        have HB := n4_
        clear n0_ n1_ n2_ n3_ n4_
        refine start_ (n := 24) (S := fun w' => w'.cell? ⟨gb566, 0, none⟩ = some (.int .i64 t560) ∧ w'.cell? ⟨gb566, 1, none⟩ = some (.int .i64 t561) ∧ w'.cell? ⟨gb566, 2, none⟩ = some (.int .i64 t562) ∧ w'.cell? ⟨gb566, 3, none⟩ = some (.string t563)) (ds := []) q17_10 (by kernel_rfl) rfl rfl ⟨(bc BK566.out 0).trans rfl, (bc BK566.out 1).trans rfl, (bc BK566.out 2).trans rfl, (bc BK566.out 3).trans rfl⟩ (fun hHeld => ?_); refine with_tabW shuttlecocklaw05_BatchBack.tab5 shuttlecocklaw05_BatchBack.bits5 (fun HT_ HW_ => ?_)
        generalize w54.drew = w55 at BK555 BK556 BK557 BK566 HB hHeld ⊢
        refine Own.pr_ 0 (some 52) q17_11 HT_ (h := ?_)
        refine Own.pr_ 1 (some 53) q17_12 HT_ (h := ?_)
        refine Own.pr_ 2 (some 54) q17_13 HT_ (h := ?_)
        refine Own.tk_ 3 (some 55) q17_14 HT_ HW_ hHeld (hy := by rintro w' ⟨s0, s1, s2, s3⟩; go_simp; with_reducible rfl) (h := ?_)
        refine one_ (i := 4) (N := some 56) q17_15 rfl rfl (one_of HT_.out (by kernel_rfl)) (by decide) (fun K hK => ?_)
        refine goes_ Try.func13 (by kernel_rfl) rfl #[.agg #[.int .i64 t560, .int .i64 t561, .int .i64 t562, .string t563]] (by rfl) rfl rfl (by (try simp only [List.map_toArray, List.map_cons, List.map_nil]); first | done | rfl | (simp only [List.length_drop, List.length_take]; rfl)) ?_
        with_reducible refine (batch_May.calls t560 t561 t562 t563 true _ A51.out).mono ?_
        rintro e w56 ⟨rfl, hb⟩
        refine ⟨_, rfl, ?_⟩
        have n0_ := Am (blk_below (g := gb555) (o := .cells #[.int .i64 a0_0, .int .i64 a0_1, .int .i64 a0_2, .string a0_3, .int .i64 a0_4, .int .i64 a0_5, .int .i64 a0_6, .string a0_7] 37 (0, 0)) (by (with_reducible repeat (first | refine bn ?_ _ | refine bd ?_ | refine ba ?_ _)); exact BK555.out) hb)
        have n1_ := Am (blk_below (g := gb556) (o := .cells #[.int .i64 a0_0, .int .i64 a0_1, .int .i64 a0_2, .string a0_3] 23 (0, 0)) (by (with_reducible repeat (first | refine bn ?_ _ | refine bd ?_ | refine ba ?_ _)); exact BK556.out) hb)
        have n2_ := Am (blk_below (g := gb557) (o := .cells #[.int .i64 a0_4, .int .i64 a0_5, .int .i64 a0_6, .string a0_7] 23 (0, 0)) (by (with_reducible repeat (first | refine bn ?_ _ | refine bd ?_ | refine ba ?_ _)); exact BK557.out) hb)
        have n3_ := Am (blk_below (g := gb566) (o := .cells #[.int .i64 t560, .int .i64 t561, .int .i64 t562, .string t563] 23 (0, 0)) (by (with_reducible repeat (first | refine bn ?_ _ | refine bd ?_ | refine ba ?_ _)); exact BK566.out) hb)
        have n4_ := Am (below_step (by repeat (first | (with_reducible first | exact HB.out | apply bl | apply pN | apply b1 | refine bs ?_ GE555.out | refine bs ?_ GE556.out | refine bs ?_ GE557.out | refine bs ?_ GE566.out) | exact HB.out | exact HBo.out)) hb)
        clear BK555
        clear BK556
        clear BK557
        clear BK566
        clear HB
        have BK555 := n0_
        have BK556 := n1_
        have BK557 := n2_
        have BK566 := n3_
        have HB := n4_
        clear n0_ n1_ n2_ n3_ n4_
        (try clear hb)
        (try clear hb2)
        (try clear hk)
        (try clear hi)
        refine hK.out _ _ ⟨(bc BK566.out 0).trans rfl, (bc BK566.out 1).trans rfl, (bc BK566.out 2).trans rfl, (bc BK566.out 3).trans rfl⟩ (fun hHeld => ?_)
        clear hK K
        refine norm_ (a' := ?_) ?_ ?_
        rotate_left
        ·
         show Act.put _ (some 56) _ = _
         simp only [Act.put, sI, sZ, sS, i64_w, i32_w]
         rfl
        refine Own.pr_ 5 (some 57) q17_16 HT_ (h := ?_)
        refine Own.pr_ 6 (some 58) q17_17 HT_ (h := ?_)
        refine Own.pr_ 7 (some 59) q17_18 HT_ (h := ?_)
        refine Own.pr_ 8 (some 60) q17_19 HT_ (h := ?_)
        refine Own.pr_ 9 (some 61) q17_20 HT_ (h := ?_)
        refine Own.pr_ 10 (some 62) q17_21 HT_ (h := ?_)
        refine Own.pr_ 11 (some 63) q17_22 HT_ (h := ?_)
        refine Own.pr_ 12 (some 64) q17_23 HT_ (h := ?_)
        refine Own.skips_ HT_.out [13, 14, 15, 16, 17, 18, 19, 20, 21] [some 65, some 66, some 67, some 68, some 69, some 70, some 71, some 72, some 73] 2 11 _ q17_24 _ ?_ _ rfl (by kernel_rfl) (fun _ _ _ _ h => h) (by kernel_rfl) ?_ ?_
        rotate_left
        ·
         simp only [Own.putU, Act.put, sI, sZ, sS]
         rfl
        refine Own.pr_ 22 (some 74) q17_25 HT_ (h := ?_)
        refine Own.pr_ 23 (some 75) q17_26 HT_ (h := ?_)
        refine done_ (done_of HT_.out (by kernel_rfl)) ?_
        try go_wp2
        go_meet
        case rel => exact ⟨_, (true), (by first | rfl | (simp; done) | (simp [*]; done)), H', ⟨by have := HJ3.out; first | omega | exact Nat.le_refl _⟩, ⟨by (with_reducible repeat (first | refine bn ?_ _ | refine bd ?_ | refine ba ?_ _)); exact BK555.out⟩, ⟨by (with_reducible repeat (first | refine bn ?_ _ | refine bd ?_ | refine ba ?_ _)); exact BK556.out⟩, ⟨by (with_reducible repeat (first | refine bn ?_ _ | refine bd ?_ | refine ba ?_ _)); exact BK557.out⟩, ⟨by (with_reducible repeat (first | refine bn ?_ _ | refine bd ?_ | refine ba ?_ _)); exact BK566.out⟩, ⟨by repeat (first | (with_reducible first | exact HB.out | apply bl | apply pN | apply b1 | refine bs ?_ GE555.out | refine bs ?_ GE556.out | refine bs ?_ GE557.out | refine bs ?_ GE566.out) | exact HB.out | exact HBo.out)⟩⟩
       ·
        rw [if_neg c53] at H
        have c53b0 : decide ((a1.size : Int) < t564) = false := decide_eq_false c53
        clear c53
        replace H := ob H
        obtain ⟨t568, A570, H⟩ := H
        replace H : (if 0 ≤ (mn t564 (a1.size : Int)) then (if (mn t564 (a1.size : Int)) ≤ (a1.size : Int) then (shuttlecocklaw05_BatchBack.j1 kj3 a2 (t568.toList != (a1.extract 0 ((mn t564 (a1.size : Int)) : Int).toNat).toList) a0_0 a0_1 a0_2 a0_3 a0_4 a0_5 a0_6 a0_7) else (none)) else (none)) = some r := H
        have A57 := Am A570
        clear A570
        obtain ⟨ji58, hji58⟩ : ∃ j_ : Int, (mn t564 (a1.size : Int)) = j_ := ⟨_, rfl⟩
        replace H : (if 0 ≤ (ji58) then (if (ji58) ≤ (a1.size : Int) then (shuttlecocklaw05_BatchBack.j1 kj3 a2 (t568.toList != (a1.extract 0 ((ji58) : Int).toNat).toList) a0_0 a0_1 a0_2 a0_3 a0_4 a0_5 a0_6 a0_7) else (none)) else (none)) = some r := by first | (rw [hji58] at H; exact H) | (simp only [hji58] at H ⊢; exact H)
        (try rw [hji58] at A51)
        (try rw [hji58] at A57)
        have hji58_ : (if (a1.size : Int) < t564 then (a1.size : Int) else t564) = ji58 := hji58
        by_cases c59 : 0 ≤ (ji58)
        ·
         rw [if_pos c59] at H
         have c59b0 := eq_true c59
         have c59b1 : decide (0 ≤ (ji58)) = true := decide_eq_true c59
         clear c59
         by_cases c60 : (ji58) ≤ (a1.size : Int)
         ·
          rw [if_pos c60] at H
          have c60b0 := eq_true c60
          have c60b1 : decide ((ji58) ≤ (a1.size : Int)) = true := decide_eq_true c60
          clear c60
          have H' := Am H
          clear H
          try go_wp2
          have n0_ : Aside0 (((((w45.setCell ⟨gb566, 0, none⟩ (.int .i64 t560)).setCell ⟨gb566, 1, none⟩ (.int .i64 t561)).setCell ⟨gb566, 2, none⟩ (.int .i64 t562)).setCell ⟨gb566, 3, none⟩ (.string t563)).heap[gb555]? = some (.cells #[.int .i64 a0_0, .int .i64 a0_1, .int .i64 a0_2, .string a0_3, .int .i64 a0_4, .int .i64 a0_5, .int .i64 a0_6, .string a0_7] 37 (0, 0))) := ⟨by (with_reducible repeat (first | refine bn ?_ _ | refine bd ?_ | refine ba ?_ _)); refine blk_far ?_ NB555_566.out _; (with_reducible repeat (first | refine bn ?_ _ | refine bd ?_ | refine ba ?_ _)); refine blk_far ?_ NB555_566.out _; (with_reducible repeat (first | refine bn ?_ _ | refine bd ?_ | refine ba ?_ _)); refine blk_far ?_ NB555_566.out _; (with_reducible repeat (first | refine bn ?_ _ | refine bd ?_ | refine ba ?_ _)); refine blk_far ?_ NB555_566.out _; (with_reducible repeat (first | refine bn ?_ _ | refine bd ?_ | refine ba ?_ _)); exact BK555.out⟩
          have n1_ : Aside0 (((((w45.setCell ⟨gb566, 0, none⟩ (.int .i64 t560)).setCell ⟨gb566, 1, none⟩ (.int .i64 t561)).setCell ⟨gb566, 2, none⟩ (.int .i64 t562)).setCell ⟨gb566, 3, none⟩ (.string t563)).heap[gb556]? = some (.cells #[.int .i64 a0_0, .int .i64 a0_1, .int .i64 a0_2, .string a0_3] 23 (0, 0))) := ⟨by (with_reducible repeat (first | refine bn ?_ _ | refine bd ?_ | refine ba ?_ _)); refine blk_far ?_ NB556_566.out _; (with_reducible repeat (first | refine bn ?_ _ | refine bd ?_ | refine ba ?_ _)); refine blk_far ?_ NB556_566.out _; (with_reducible repeat (first | refine bn ?_ _ | refine bd ?_ | refine ba ?_ _)); refine blk_far ?_ NB556_566.out _; (with_reducible repeat (first | refine bn ?_ _ | refine bd ?_ | refine ba ?_ _)); refine blk_far ?_ NB556_566.out _; (with_reducible repeat (first | refine bn ?_ _ | refine bd ?_ | refine ba ?_ _)); exact BK556.out⟩
          have n2_ : Aside0 (((((w45.setCell ⟨gb566, 0, none⟩ (.int .i64 t560)).setCell ⟨gb566, 1, none⟩ (.int .i64 t561)).setCell ⟨gb566, 2, none⟩ (.int .i64 t562)).setCell ⟨gb566, 3, none⟩ (.string t563)).heap[gb557]? = some (.cells #[.int .i64 a0_4, .int .i64 a0_5, .int .i64 a0_6, .string a0_7] 23 (0, 0))) := ⟨by (with_reducible repeat (first | refine bn ?_ _ | refine bd ?_ | refine ba ?_ _)); refine blk_far ?_ NB557_566.out _; (with_reducible repeat (first | refine bn ?_ _ | refine bd ?_ | refine ba ?_ _)); refine blk_far ?_ NB557_566.out _; (with_reducible repeat (first | refine bn ?_ _ | refine bd ?_ | refine ba ?_ _)); refine blk_far ?_ NB557_566.out _; (with_reducible repeat (first | refine bn ?_ _ | refine bd ?_ | refine ba ?_ _)); refine blk_far ?_ NB557_566.out _; (with_reducible repeat (first | refine bn ?_ _ | refine bd ?_ | refine ba ?_ _)); exact BK557.out⟩
          have n3_ : Aside0 (((((w45.setCell ⟨gb566, 0, none⟩ (.int .i64 t560)).setCell ⟨gb566, 1, none⟩ (.int .i64 t561)).setCell ⟨gb566, 2, none⟩ (.int .i64 t562)).setCell ⟨gb566, 3, none⟩ (.string t563)).heap[gb566]? = some (.cells #[.int .i64 t560, .int .i64 t561, .int .i64 t562, .string t563] 23 (0, 0))) := ⟨by (with_reducible repeat (first | refine bn ?_ _ | refine bd ?_ | refine ba ?_ _)); refine blk_put (cs := #[.int .i64 t560, .int .i64 t561, .int .i64 t562, .string (⟨#[]⟩ : ByteArray)]) ?_ 3 _ rfl; (with_reducible repeat (first | refine bn ?_ _ | refine bd ?_ | refine ba ?_ _)); refine blk_put (cs := #[.int .i64 t560, .int .i64 t561, .int .i64 0, .string (⟨#[]⟩ : ByteArray)]) ?_ 2 _ rfl; (with_reducible repeat (first | refine bn ?_ _ | refine bd ?_ | refine ba ?_ _)); refine blk_put (cs := #[.int .i64 t560, .int .i64 0, .int .i64 0, .string (⟨#[]⟩ : ByteArray)]) ?_ 1 _ rfl; (with_reducible repeat (first | refine bn ?_ _ | refine bd ?_ | refine ba ?_ _)); refine blk_put (cs := #[.int .i64 0, .int .i64 0, .int .i64 0, .string (⟨#[]⟩ : ByteArray)]) ?_ 0 _ rfl; (with_reducible repeat (first | refine bn ?_ _ | refine bd ?_ | refine ba ?_ _)); exact BK566.out⟩
          have n4_ : Aside0 (Below w.heap.size w ((((w45.setCell ⟨gb566, 0, none⟩ (.int .i64 t560)).setCell ⟨gb566, 1, none⟩ (.int .i64 t561)).setCell ⟨gb566, 2, none⟩ (.int .i64 t562)).setCell ⟨gb566, 3, none⟩ (.string t563))) := ⟨by repeat (first | (with_reducible first | exact HB.out | apply bl | apply pN | apply b1 | refine bs ?_ GE555.out | refine bs ?_ GE556.out | refine bs ?_ GE557.out | refine bs ?_ GE566.out) | exact HB.out | exact HBo.out)⟩
          (try clear BK555)
          (try clear BK556)
          (try clear BK557)
          (try clear BK566)
          (try clear HB)
          generalize ((((w45.setCell ⟨gb566, 0, none⟩ (.int .i64 t560)).setCell ⟨gb566, 1, none⟩ (.int .i64 t561)).setCell ⟨gb566, 2, none⟩ (.int .i64 t562)).setCell ⟨gb566, 3, none⟩ (.string t563)) = w61 at n0_ n1_ n2_ n3_ n4_ ⊢
          have BK555 := n0_
          have BK556 := n1_
          have BK557 := n2_
          have BK566 := n3_
          have HB := n4_
          clear n0_ n1_ n2_ n3_ n4_
          have n0_ := Am (bd BK555.out)
          have n1_ := Am (bd BK556.out)
          have n2_ := Am (bd BK557.out)
          have n3_ := Am (bd BK566.out)
          have n4_ := Am (b1 HB.out)
          clear BK555
          clear BK556
          clear BK557
          clear BK566
          clear HB
          have BK555 := n0_
          have BK556 := n1_
          have BK557 := n2_
          have BK566 := n3_
          have HB := n4_
          clear n0_ n1_ n2_ n3_ n4_
          refine start_ (n := 24) (S := fun w' => w'.cell? ⟨gb566, 0, none⟩ = some (.int .i64 t560) ∧ w'.cell? ⟨gb566, 1, none⟩ = some (.int .i64 t561) ∧ w'.cell? ⟨gb566, 2, none⟩ = some (.int .i64 t562) ∧ w'.cell? ⟨gb566, 3, none⟩ = some (.string t563)) (ds := []) q17_10 (by kernel_rfl) rfl rfl ⟨(bc BK566.out 0).trans rfl, (bc BK566.out 1).trans rfl, (bc BK566.out 2).trans rfl, (bc BK566.out 3).trans rfl⟩ (fun hHeld => ?_); refine with_tabW shuttlecocklaw05_BatchBack.tab5 shuttlecocklaw05_BatchBack.bits5 (fun HT_ HW_ => ?_)
          generalize w61.drew = w62 at BK555 BK556 BK557 BK566 HB hHeld ⊢
          refine Own.pr_ 0 (some 52) q17_11 HT_ (h := ?_)
          refine Own.pr_ 1 (some 53) q17_12 HT_ (h := ?_)
          refine Own.pr_ 2 (some 54) q17_13 HT_ (h := ?_)
          refine Own.tk_ 3 (some 55) q17_14 HT_ HW_ hHeld (hy := by rintro w' ⟨s0, s1, s2, s3⟩; go_simp; with_reducible rfl) (h := ?_)
          refine one_ (i := 4) (N := some 56) q17_15 rfl rfl (one_of HT_.out (by kernel_rfl)) (by decide) (fun K hK => ?_)
          refine goes_ Try.func13 (by kernel_rfl) rfl #[.agg #[.int .i64 t560, .int .i64 t561, .int .i64 t562, .string t563]] (by rfl) rfl rfl (by (try simp only [List.map_toArray, List.map_cons, List.map_nil]); first | done | rfl | (simp only [List.length_drop, List.length_take]; rfl)) ?_
          with_reducible refine (batch_May.calls t560 t561 t562 t563 true _ A51.out).mono ?_
          rintro e w63 ⟨rfl, hb⟩
          refine ⟨_, rfl, ?_⟩
          have n0_ := Am (blk_below (g := gb555) (o := .cells #[.int .i64 a0_0, .int .i64 a0_1, .int .i64 a0_2, .string a0_3, .int .i64 a0_4, .int .i64 a0_5, .int .i64 a0_6, .string a0_7] 37 (0, 0)) (by (with_reducible repeat (first | refine bn ?_ _ | refine bd ?_ | refine ba ?_ _)); exact BK555.out) hb)
          have n1_ := Am (blk_below (g := gb556) (o := .cells #[.int .i64 a0_0, .int .i64 a0_1, .int .i64 a0_2, .string a0_3] 23 (0, 0)) (by (with_reducible repeat (first | refine bn ?_ _ | refine bd ?_ | refine ba ?_ _)); exact BK556.out) hb)
          have n2_ := Am (blk_below (g := gb557) (o := .cells #[.int .i64 a0_4, .int .i64 a0_5, .int .i64 a0_6, .string a0_7] 23 (0, 0)) (by (with_reducible repeat (first | refine bn ?_ _ | refine bd ?_ | refine ba ?_ _)); exact BK557.out) hb)
          have n3_ := Am (blk_below (g := gb566) (o := .cells #[.int .i64 t560, .int .i64 t561, .int .i64 t562, .string t563] 23 (0, 0)) (by (with_reducible repeat (first | refine bn ?_ _ | refine bd ?_ | refine ba ?_ _)); exact BK566.out) hb)
          have n4_ := Am (below_step (by repeat (first | (with_reducible first | exact HB.out | apply bl | apply pN | apply b1 | refine bs ?_ GE555.out | refine bs ?_ GE556.out | refine bs ?_ GE557.out | refine bs ?_ GE566.out) | exact HB.out | exact HBo.out)) hb)
          clear BK555
          clear BK556
          clear BK557
          clear BK566
          clear HB
          have BK555 := n0_
          have BK556 := n1_
          have BK557 := n2_
          have BK566 := n3_
          have HB := n4_
          clear n0_ n1_ n2_ n3_ n4_
          (try clear hb)
          (try clear hb2)
          (try clear hk)
          (try clear hi)
          refine hK.out _ _ ⟨(bc BK566.out 0).trans rfl, (bc BK566.out 1).trans rfl, (bc BK566.out 2).trans rfl, (bc BK566.out 3).trans rfl⟩ (fun hHeld => ?_)
          clear hK K
          refine norm_ (a' := ?_) ?_ ?_
          rotate_left
          ·
           show Act.put _ (some 56) _ = _
           simp only [Act.put, sI, sZ, sS, i64_w, i32_w]
           rfl
          refine Own.pr_ 5 (some 57) q17_16 HT_ (h := ?_)
          refine Own.pr_ 6 (some 58) q17_17 HT_ (h := ?_)
          refine Own.pr_ 7 (some 59) q17_18 HT_ (h := ?_)
          refine Own.pr_ 8 (some 60) q17_19 HT_ (h := ?_)
          refine Own.pr_ 9 (some 61) q17_20 HT_ (h := ?_)
          refine Own.pr_ 10 (some 62) q17_21 HT_ (h := ?_)
          refine Own.pr_ 11 (some 63) q17_22 HT_ (h := ?_)
          refine Own.pr_ 12 (some 64) q17_23 HT_ (h := ?_)
          refine Own.pr_ 15 (some 67) q17_27 HT_ (h := ?_)
          refine Own.pr_ 16 (some 68) q17_28 HT_ (h := ?_)
          refine Own.pr_ 17 (some 69) q17_29 HT_ (h := ?_)
          refine Own.pr_ 18 (some 70) q17_30 HT_ (h := ?_)
          refine Own.pr_ 19 (some 71) q17_31 HT_ (h := ?_)
          refine Own.pr_ 20 (some 72) q17_32 HT_ (h := ?_)
          refine Own.tk_ 13 (some 65) q17_33 HT_ HW_ hHeld (hy := by rintro w' ⟨s0, s1, s2, s3⟩; go_simp; with_reducible rfl) (h := ?_)
          refine one_ (i := 14) (N := some 66) q17_34 rfl rfl (one_of HT_.out (by kernel_rfl)) (by decide) (fun K hK => ?_)
          refine goes_ Try.func15 (by kernel_rfl) rfl #[.agg #[.int .i64 t560, .int .i64 t561, .int .i64 t562, .string t563]] (by rfl) rfl rfl (by (try simp only [List.map_toArray, List.map_cons, List.map_nil]); first | done | rfl | (simp only [List.length_drop, List.length_take]; rfl)) ?_
          with_reducible refine (batch_Encode.calls kj3 t560 t561 t562 t563 t568 _ A57.out).mono ?_
          rintro e w64 ⟨rfl, hb⟩
          refine ⟨_, rfl, ?_⟩
          have n0_ := Am (blk_below (g := gb555) (o := .cells #[.int .i64 a0_0, .int .i64 a0_1, .int .i64 a0_2, .string a0_3, .int .i64 a0_4, .int .i64 a0_5, .int .i64 a0_6, .string a0_7] 37 (0, 0)) (by (with_reducible repeat (first | refine bn ?_ _ | refine bd ?_ | refine ba ?_ _)); exact BK555.out) hb)
          have n1_ := Am (blk_below (g := gb556) (o := .cells #[.int .i64 a0_0, .int .i64 a0_1, .int .i64 a0_2, .string a0_3] 23 (0, 0)) (by (with_reducible repeat (first | refine bn ?_ _ | refine bd ?_ | refine ba ?_ _)); exact BK556.out) hb)
          have n2_ := Am (blk_below (g := gb557) (o := .cells #[.int .i64 a0_4, .int .i64 a0_5, .int .i64 a0_6, .string a0_7] 23 (0, 0)) (by (with_reducible repeat (first | refine bn ?_ _ | refine bd ?_ | refine ba ?_ _)); exact BK557.out) hb)
          have n3_ := Am (blk_below (g := gb566) (o := .cells #[.int .i64 t560, .int .i64 t561, .int .i64 t562, .string t563] 23 (0, 0)) (by (with_reducible repeat (first | refine bn ?_ _ | refine bd ?_ | refine ba ?_ _)); exact BK566.out) hb)
          have n4_ := Am (below_step (by repeat (first | (with_reducible first | exact HB.out | apply bl | apply pN | apply b1 | refine bs ?_ GE555.out | refine bs ?_ GE556.out | refine bs ?_ GE557.out | refine bs ?_ GE566.out) | exact HB.out | exact HBo.out)) hb)
          clear BK555
          clear BK556
          clear BK557
          clear BK566
          clear HB
          have BK555 := n0_
          have BK556 := n1_
          have BK557 := n2_
          have BK566 := n3_
          have HB := n4_
          clear n0_ n1_ n2_ n3_ n4_
          (try clear hb)
          (try clear hb2)
          (try clear hk)
          (try clear hi)
          refine hK.out _ _ ⟨(bc BK566.out 0).trans rfl, (bc BK566.out 1).trans rfl, (bc BK566.out 2).trans rfl, (bc BK566.out 3).trans rfl⟩ (fun hHeld => ?_)
          clear hK K
          refine norm_ (a' := ?_) ?_ ?_
          rotate_left
          ·
           show Act.put _ (some 66) _ = _
           simp only [Act.put, sI, sZ, sS, i64_w, i32_w]
           rfl
          refine Own.pr_ 21 (some 73) q17_24 HT_ (h := ?_)
          refine Own.pr_ 22 (some 74) q17_25 HT_ (h := ?_)
          refine Own.pr_ 23 (some 75) q17_26 HT_ (h := ?_)
          refine done_ (done_of HT_.out (by kernel_rfl)) ?_
          try go_wp2
          go_meet
          case rel => exact ⟨_, ((t568.toList != (a1.extract 0 ((ji58) : Int).toNat).toList)), (by first | rfl | (simp; done) | (simp only [← hji58] <;> (first | rfl | simp)) | (simp [*]; done)), H', ⟨by have := HJ3.out; first | omega | exact Nat.le_refl _⟩, ⟨by (with_reducible repeat (first | refine bn ?_ _ | refine bd ?_ | refine ba ?_ _)); exact BK555.out⟩, ⟨by (with_reducible repeat (first | refine bn ?_ _ | refine bd ?_ | refine ba ?_ _)); exact BK556.out⟩, ⟨by (with_reducible repeat (first | refine bn ?_ _ | refine bd ?_ | refine ba ?_ _)); exact BK557.out⟩, ⟨by (with_reducible repeat (first | refine bn ?_ _ | refine bd ?_ | refine ba ?_ _)); exact BK566.out⟩, ⟨by repeat (first | (with_reducible first | exact HB.out | apply bl | apply pN | apply b1 | refine bs ?_ GE555.out | refine bs ?_ GE556.out | refine bs ?_ GE557.out | refine bs ?_ GE566.out) | exact HB.out | exact HBo.out)⟩⟩
         ·
          rw [if_neg c60] at H
          exact absurd H (by simp)
        ·
         rw [if_neg c59] at H
         exact absurd H (by simp)
      ·
       replace c52 := Bool.eq_false_iff.mpr c52
       subst c52
       have H1 : (shuttlecocklaw05_BatchBack.j1 kj3 a2 true a0_0 a0_1 a0_2 a0_3 a0_4 a0_5 a0_6 a0_7) = some r := by rw [if_neg (show ¬ (false = true) by decide)] at H; exact H
       clear H
       have H := H1
       clear H1
       have H' := Am H
       clear H
       try go_wp2
       have n0_ : Aside0 (((((w45.setCell ⟨gb566, 0, none⟩ (.int .i64 t560)).setCell ⟨gb566, 1, none⟩ (.int .i64 t561)).setCell ⟨gb566, 2, none⟩ (.int .i64 t562)).setCell ⟨gb566, 3, none⟩ (.string t563)).heap[gb555]? = some (.cells #[.int .i64 a0_0, .int .i64 a0_1, .int .i64 a0_2, .string a0_3, .int .i64 a0_4, .int .i64 a0_5, .int .i64 a0_6, .string a0_7] 37 (0, 0))) := ⟨by (with_reducible repeat (first | refine bn ?_ _ | refine bd ?_ | refine ba ?_ _)); refine blk_far ?_ NB555_566.out _; (with_reducible repeat (first | refine bn ?_ _ | refine bd ?_ | refine ba ?_ _)); refine blk_far ?_ NB555_566.out _; (with_reducible repeat (first | refine bn ?_ _ | refine bd ?_ | refine ba ?_ _)); refine blk_far ?_ NB555_566.out _; (with_reducible repeat (first | refine bn ?_ _ | refine bd ?_ | refine ba ?_ _)); refine blk_far ?_ NB555_566.out _; (with_reducible repeat (first | refine bn ?_ _ | refine bd ?_ | refine ba ?_ _)); exact BK555.out⟩
       have n1_ : Aside0 (((((w45.setCell ⟨gb566, 0, none⟩ (.int .i64 t560)).setCell ⟨gb566, 1, none⟩ (.int .i64 t561)).setCell ⟨gb566, 2, none⟩ (.int .i64 t562)).setCell ⟨gb566, 3, none⟩ (.string t563)).heap[gb556]? = some (.cells #[.int .i64 a0_0, .int .i64 a0_1, .int .i64 a0_2, .string a0_3] 23 (0, 0))) := ⟨by (with_reducible repeat (first | refine bn ?_ _ | refine bd ?_ | refine ba ?_ _)); refine blk_far ?_ NB556_566.out _; (with_reducible repeat (first | refine bn ?_ _ | refine bd ?_ | refine ba ?_ _)); refine blk_far ?_ NB556_566.out _; (with_reducible repeat (first | refine bn ?_ _ | refine bd ?_ | refine ba ?_ _)); refine blk_far ?_ NB556_566.out _; (with_reducible repeat (first | refine bn ?_ _ | refine bd ?_ | refine ba ?_ _)); refine blk_far ?_ NB556_566.out _; (with_reducible repeat (first | refine bn ?_ _ | refine bd ?_ | refine ba ?_ _)); exact BK556.out⟩
       have n2_ : Aside0 (((((w45.setCell ⟨gb566, 0, none⟩ (.int .i64 t560)).setCell ⟨gb566, 1, none⟩ (.int .i64 t561)).setCell ⟨gb566, 2, none⟩ (.int .i64 t562)).setCell ⟨gb566, 3, none⟩ (.string t563)).heap[gb557]? = some (.cells #[.int .i64 a0_4, .int .i64 a0_5, .int .i64 a0_6, .string a0_7] 23 (0, 0))) := ⟨by (with_reducible repeat (first | refine bn ?_ _ | refine bd ?_ | refine ba ?_ _)); refine blk_far ?_ NB557_566.out _; (with_reducible repeat (first | refine bn ?_ _ | refine bd ?_ | refine ba ?_ _)); refine blk_far ?_ NB557_566.out _; (with_reducible repeat (first | refine bn ?_ _ | refine bd ?_ | refine ba ?_ _)); refine blk_far ?_ NB557_566.out _; (with_reducible repeat (first | refine bn ?_ _ | refine bd ?_ | refine ba ?_ _)); refine blk_far ?_ NB557_566.out _; (with_reducible repeat (first | refine bn ?_ _ | refine bd ?_ | refine ba ?_ _)); exact BK557.out⟩
       have n3_ : Aside0 (((((w45.setCell ⟨gb566, 0, none⟩ (.int .i64 t560)).setCell ⟨gb566, 1, none⟩ (.int .i64 t561)).setCell ⟨gb566, 2, none⟩ (.int .i64 t562)).setCell ⟨gb566, 3, none⟩ (.string t563)).heap[gb566]? = some (.cells #[.int .i64 t560, .int .i64 t561, .int .i64 t562, .string t563] 23 (0, 0))) := ⟨by (with_reducible repeat (first | refine bn ?_ _ | refine bd ?_ | refine ba ?_ _)); refine blk_put (cs := #[.int .i64 t560, .int .i64 t561, .int .i64 t562, .string (⟨#[]⟩ : ByteArray)]) ?_ 3 _ rfl; (with_reducible repeat (first | refine bn ?_ _ | refine bd ?_ | refine ba ?_ _)); refine blk_put (cs := #[.int .i64 t560, .int .i64 t561, .int .i64 0, .string (⟨#[]⟩ : ByteArray)]) ?_ 2 _ rfl; (with_reducible repeat (first | refine bn ?_ _ | refine bd ?_ | refine ba ?_ _)); refine blk_put (cs := #[.int .i64 t560, .int .i64 0, .int .i64 0, .string (⟨#[]⟩ : ByteArray)]) ?_ 1 _ rfl; (with_reducible repeat (first | refine bn ?_ _ | refine bd ?_ | refine ba ?_ _)); refine blk_put (cs := #[.int .i64 0, .int .i64 0, .int .i64 0, .string (⟨#[]⟩ : ByteArray)]) ?_ 0 _ rfl; (with_reducible repeat (first | refine bn ?_ _ | refine bd ?_ | refine ba ?_ _)); exact BK566.out⟩
       have n4_ : Aside0 (Below w.heap.size w ((((w45.setCell ⟨gb566, 0, none⟩ (.int .i64 t560)).setCell ⟨gb566, 1, none⟩ (.int .i64 t561)).setCell ⟨gb566, 2, none⟩ (.int .i64 t562)).setCell ⟨gb566, 3, none⟩ (.string t563))) := ⟨by repeat (first | (with_reducible first | exact HB.out | apply bl | apply pN | apply b1 | refine bs ?_ GE555.out | refine bs ?_ GE556.out | refine bs ?_ GE557.out | refine bs ?_ GE566.out) | exact HB.out | exact HBo.out)⟩
       (try clear BK555)
       (try clear BK556)
       (try clear BK557)
       (try clear BK566)
       (try clear HB)
       generalize ((((w45.setCell ⟨gb566, 0, none⟩ (.int .i64 t560)).setCell ⟨gb566, 1, none⟩ (.int .i64 t561)).setCell ⟨gb566, 2, none⟩ (.int .i64 t562)).setCell ⟨gb566, 3, none⟩ (.string t563)) = w65 at n0_ n1_ n2_ n3_ n4_ ⊢
       have BK555 := n0_
       have BK556 := n1_
       have BK557 := n2_
       have BK566 := n3_
       have HB := n4_
       clear n0_ n1_ n2_ n3_ n4_
       have n0_ := Am (bd BK555.out)
       have n1_ := Am (bd BK556.out)
       have n2_ := Am (bd BK557.out)
       have n3_ := Am (bd BK566.out)
       have n4_ := Am (b1 HB.out)
       clear BK555
       clear BK556
       clear BK557
       clear BK566
       clear HB
       have BK555 := n0_
       have BK556 := n1_
       have BK557 := n2_
       have BK566 := n3_
       have HB := n4_
       clear n0_ n1_ n2_ n3_ n4_
       refine start_ (n := 24) (S := fun w' => w'.cell? ⟨gb566, 0, none⟩ = some (.int .i64 t560) ∧ w'.cell? ⟨gb566, 1, none⟩ = some (.int .i64 t561) ∧ w'.cell? ⟨gb566, 2, none⟩ = some (.int .i64 t562) ∧ w'.cell? ⟨gb566, 3, none⟩ = some (.string t563)) (ds := []) q17_10 (by kernel_rfl) rfl rfl ⟨(bc BK566.out 0).trans rfl, (bc BK566.out 1).trans rfl, (bc BK566.out 2).trans rfl, (bc BK566.out 3).trans rfl⟩ (fun hHeld => ?_); refine with_tabW shuttlecocklaw05_BatchBack.tab5 shuttlecocklaw05_BatchBack.bits5 (fun HT_ HW_ => ?_)
       generalize w65.drew = w66 at BK555 BK556 BK557 BK566 HB hHeld ⊢
       refine Own.pr_ 0 (some 52) q17_11 HT_ (h := ?_)
       refine Own.pr_ 1 (some 53) q17_12 HT_ (h := ?_)
       refine Own.pr_ 2 (some 54) q17_13 HT_ (h := ?_)
       refine Own.tk_ 3 (some 55) q17_14 HT_ HW_ hHeld (hy := by rintro w' ⟨s0, s1, s2, s3⟩; go_simp; with_reducible rfl) (h := ?_)
       refine one_ (i := 4) (N := some 56) q17_15 rfl rfl (one_of HT_.out (by kernel_rfl)) (by decide) (fun K hK => ?_)
       refine goes_ Try.func13 (by kernel_rfl) rfl #[.agg #[.int .i64 t560, .int .i64 t561, .int .i64 t562, .string t563]] (by rfl) rfl rfl (by (try simp only [List.map_toArray, List.map_cons, List.map_nil]); first | done | rfl | (simp only [List.length_drop, List.length_take]; rfl)) ?_
       with_reducible refine (batch_May.calls t560 t561 t562 t563 false _ A51.out).mono ?_
       rintro e w67 ⟨rfl, hb⟩
       refine ⟨_, rfl, ?_⟩
       have n0_ := Am (blk_below (g := gb555) (o := .cells #[.int .i64 a0_0, .int .i64 a0_1, .int .i64 a0_2, .string a0_3, .int .i64 a0_4, .int .i64 a0_5, .int .i64 a0_6, .string a0_7] 37 (0, 0)) (by (with_reducible repeat (first | refine bn ?_ _ | refine bd ?_ | refine ba ?_ _)); exact BK555.out) hb)
       have n1_ := Am (blk_below (g := gb556) (o := .cells #[.int .i64 a0_0, .int .i64 a0_1, .int .i64 a0_2, .string a0_3] 23 (0, 0)) (by (with_reducible repeat (first | refine bn ?_ _ | refine bd ?_ | refine ba ?_ _)); exact BK556.out) hb)
       have n2_ := Am (blk_below (g := gb557) (o := .cells #[.int .i64 a0_4, .int .i64 a0_5, .int .i64 a0_6, .string a0_7] 23 (0, 0)) (by (with_reducible repeat (first | refine bn ?_ _ | refine bd ?_ | refine ba ?_ _)); exact BK557.out) hb)
       have n3_ := Am (blk_below (g := gb566) (o := .cells #[.int .i64 t560, .int .i64 t561, .int .i64 t562, .string t563] 23 (0, 0)) (by (with_reducible repeat (first | refine bn ?_ _ | refine bd ?_ | refine ba ?_ _)); exact BK566.out) hb)
       have n4_ := Am (below_step (by repeat (first | (with_reducible first | exact HB.out | apply bl | apply pN | apply b1 | refine bs ?_ GE555.out | refine bs ?_ GE556.out | refine bs ?_ GE557.out | refine bs ?_ GE566.out) | exact HB.out | exact HBo.out)) hb)
       clear BK555
       clear BK556
       clear BK557
       clear BK566
       clear HB
       have BK555 := n0_
       have BK556 := n1_
       have BK557 := n2_
       have BK566 := n3_
       have HB := n4_
       clear n0_ n1_ n2_ n3_ n4_
       (try clear hb)
       (try clear hb2)
       (try clear hk)
       (try clear hi)
       refine hK.out _ _ ⟨(bc BK566.out 0).trans rfl, (bc BK566.out 1).trans rfl, (bc BK566.out 2).trans rfl, (bc BK566.out 3).trans rfl⟩ (fun hHeld => ?_)
       clear hK K
       refine norm_ (a' := ?_) ?_ ?_
       rotate_left
       ·
        show Act.put _ (some 56) _ = _
        simp only [Act.put, sI, sZ, sS, i64_w, i32_w]
        rfl
       refine Own.pr_ 5 (some 57) q17_16 HT_ (h := ?_)
       refine Own.pr_ 6 (some 58) q17_17 HT_ (h := ?_)
       refine Own.skips_ HT_.out [7, 8, 9, 10] [some 59, some 60, some 61, some 62] 13 17 _ q17_21 _ ?_ _ rfl (by kernel_rfl) (fun _ _ _ _ h => h) (by kernel_rfl) ?_ ?_
       rotate_left
       ·
        simp only [Own.putU, Act.put, sI, sZ, sS]
        rfl
       refine Own.pr_ 11 (some 63) q17_22 HT_ (h := ?_)
       refine Own.pr_ 12 (some 64) q17_23 HT_ (h := ?_)
       refine Own.skips_ HT_.out [13, 14, 15, 16, 17, 18, 19, 20, 21] [some 65, some 66, some 67, some 68, some 69, some 70, some 71, some 72, some 73] 2 11 _ q17_24 _ ?_ _ rfl (by kernel_rfl) (fun _ _ _ _ h => h) (by kernel_rfl) ?_ ?_
       rotate_left
       ·
        simp only [Own.putU, Act.put, sI, sZ, sS]
        rfl
       refine Own.pr_ 22 (some 74) q17_25 HT_ (h := ?_)
       refine Own.pr_ 23 (some 75) q17_26 HT_ (h := ?_)
       refine done_ (done_of HT_.out (by kernel_rfl)) ?_
       try go_wp2
       go_meet
       case rel => exact ⟨_, (true), (by first | rfl | (simp; done) | (simp [*]; done)), H', ⟨by have := HJ3.out; first | omega | exact Nat.le_refl _⟩, ⟨by (with_reducible repeat (first | refine bn ?_ _ | refine bd ?_ | refine ba ?_ _)); exact BK555.out⟩, ⟨by (with_reducible repeat (first | refine bn ?_ _ | refine bd ?_ | refine ba ?_ _)); exact BK556.out⟩, ⟨by (with_reducible repeat (first | refine bn ?_ _ | refine bd ?_ | refine ba ?_ _)); exact BK557.out⟩, ⟨by (with_reducible repeat (first | refine bn ?_ _ | refine bd ?_ | refine ba ?_ _)); exact BK566.out⟩, ⟨by repeat (first | (with_reducible first | exact HB.out | apply bl | apply pN | apply b1 | refine bs ?_ GE555.out | refine bs ?_ GE556.out | refine bs ?_ GE557.out | refine bs ?_ GE566.out) | exact HB.out | exact HBo.out)⟩⟩
     ·
      rw [if_neg c50] at H
      have c50b0 : (t565 == 0) = false := beq_eq_false_iff_ne.mpr c50
      have c50b1 : (t565 != 0) = true := bne_iff_ne.mpr c50
      (first | rw [c50b0] | (simp only [i64_w, i32_w]; rw [c50b0]) | skip)
      have H' := Am H
      clear H
      try go_wp2
      have n0_ : Aside0 (((((w45.setCell ⟨gb566, 0, none⟩ (.int .i64 t560)).setCell ⟨gb566, 1, none⟩ (.int .i64 t561)).setCell ⟨gb566, 2, none⟩ (.int .i64 t562)).setCell ⟨gb566, 3, none⟩ (.string t563)).heap[gb555]? = some (.cells #[.int .i64 a0_0, .int .i64 a0_1, .int .i64 a0_2, .string a0_3, .int .i64 a0_4, .int .i64 a0_5, .int .i64 a0_6, .string a0_7] 37 (0, 0))) := ⟨by (with_reducible repeat (first | refine bn ?_ _ | refine bd ?_ | refine ba ?_ _)); refine blk_far ?_ NB555_566.out _; (with_reducible repeat (first | refine bn ?_ _ | refine bd ?_ | refine ba ?_ _)); refine blk_far ?_ NB555_566.out _; (with_reducible repeat (first | refine bn ?_ _ | refine bd ?_ | refine ba ?_ _)); refine blk_far ?_ NB555_566.out _; (with_reducible repeat (first | refine bn ?_ _ | refine bd ?_ | refine ba ?_ _)); refine blk_far ?_ NB555_566.out _; (with_reducible repeat (first | refine bn ?_ _ | refine bd ?_ | refine ba ?_ _)); exact BK555.out⟩
      have n1_ : Aside0 (((((w45.setCell ⟨gb566, 0, none⟩ (.int .i64 t560)).setCell ⟨gb566, 1, none⟩ (.int .i64 t561)).setCell ⟨gb566, 2, none⟩ (.int .i64 t562)).setCell ⟨gb566, 3, none⟩ (.string t563)).heap[gb556]? = some (.cells #[.int .i64 a0_0, .int .i64 a0_1, .int .i64 a0_2, .string a0_3] 23 (0, 0))) := ⟨by (with_reducible repeat (first | refine bn ?_ _ | refine bd ?_ | refine ba ?_ _)); refine blk_far ?_ NB556_566.out _; (with_reducible repeat (first | refine bn ?_ _ | refine bd ?_ | refine ba ?_ _)); refine blk_far ?_ NB556_566.out _; (with_reducible repeat (first | refine bn ?_ _ | refine bd ?_ | refine ba ?_ _)); refine blk_far ?_ NB556_566.out _; (with_reducible repeat (first | refine bn ?_ _ | refine bd ?_ | refine ba ?_ _)); refine blk_far ?_ NB556_566.out _; (with_reducible repeat (first | refine bn ?_ _ | refine bd ?_ | refine ba ?_ _)); exact BK556.out⟩
      have n2_ : Aside0 (((((w45.setCell ⟨gb566, 0, none⟩ (.int .i64 t560)).setCell ⟨gb566, 1, none⟩ (.int .i64 t561)).setCell ⟨gb566, 2, none⟩ (.int .i64 t562)).setCell ⟨gb566, 3, none⟩ (.string t563)).heap[gb557]? = some (.cells #[.int .i64 a0_4, .int .i64 a0_5, .int .i64 a0_6, .string a0_7] 23 (0, 0))) := ⟨by (with_reducible repeat (first | refine bn ?_ _ | refine bd ?_ | refine ba ?_ _)); refine blk_far ?_ NB557_566.out _; (with_reducible repeat (first | refine bn ?_ _ | refine bd ?_ | refine ba ?_ _)); refine blk_far ?_ NB557_566.out _; (with_reducible repeat (first | refine bn ?_ _ | refine bd ?_ | refine ba ?_ _)); refine blk_far ?_ NB557_566.out _; (with_reducible repeat (first | refine bn ?_ _ | refine bd ?_ | refine ba ?_ _)); refine blk_far ?_ NB557_566.out _; (with_reducible repeat (first | refine bn ?_ _ | refine bd ?_ | refine ba ?_ _)); exact BK557.out⟩
      have n3_ : Aside0 (((((w45.setCell ⟨gb566, 0, none⟩ (.int .i64 t560)).setCell ⟨gb566, 1, none⟩ (.int .i64 t561)).setCell ⟨gb566, 2, none⟩ (.int .i64 t562)).setCell ⟨gb566, 3, none⟩ (.string t563)).heap[gb566]? = some (.cells #[.int .i64 t560, .int .i64 t561, .int .i64 t562, .string t563] 23 (0, 0))) := ⟨by (with_reducible repeat (first | refine bn ?_ _ | refine bd ?_ | refine ba ?_ _)); refine blk_put (cs := #[.int .i64 t560, .int .i64 t561, .int .i64 t562, .string (⟨#[]⟩ : ByteArray)]) ?_ 3 _ rfl; (with_reducible repeat (first | refine bn ?_ _ | refine bd ?_ | refine ba ?_ _)); refine blk_put (cs := #[.int .i64 t560, .int .i64 t561, .int .i64 0, .string (⟨#[]⟩ : ByteArray)]) ?_ 2 _ rfl; (with_reducible repeat (first | refine bn ?_ _ | refine bd ?_ | refine ba ?_ _)); refine blk_put (cs := #[.int .i64 t560, .int .i64 0, .int .i64 0, .string (⟨#[]⟩ : ByteArray)]) ?_ 1 _ rfl; (with_reducible repeat (first | refine bn ?_ _ | refine bd ?_ | refine ba ?_ _)); refine blk_put (cs := #[.int .i64 0, .int .i64 0, .int .i64 0, .string (⟨#[]⟩ : ByteArray)]) ?_ 0 _ rfl; (with_reducible repeat (first | refine bn ?_ _ | refine bd ?_ | refine ba ?_ _)); exact BK566.out⟩
      have n4_ : Aside0 (Below w.heap.size w ((((w45.setCell ⟨gb566, 0, none⟩ (.int .i64 t560)).setCell ⟨gb566, 1, none⟩ (.int .i64 t561)).setCell ⟨gb566, 2, none⟩ (.int .i64 t562)).setCell ⟨gb566, 3, none⟩ (.string t563))) := ⟨by repeat (first | (with_reducible first | exact HB.out | apply bl | apply pN | apply b1 | refine bs ?_ GE555.out | refine bs ?_ GE556.out | refine bs ?_ GE557.out | refine bs ?_ GE566.out) | exact HB.out | exact HBo.out)⟩
      (try clear BK555)
      (try clear BK556)
      (try clear BK557)
      (try clear BK566)
      (try clear HB)
      generalize ((((w45.setCell ⟨gb566, 0, none⟩ (.int .i64 t560)).setCell ⟨gb566, 1, none⟩ (.int .i64 t561)).setCell ⟨gb566, 2, none⟩ (.int .i64 t562)).setCell ⟨gb566, 3, none⟩ (.string t563)) = w68 at n0_ n1_ n2_ n3_ n4_ ⊢
      have BK555 := n0_
      have BK556 := n1_
      have BK557 := n2_
      have BK566 := n3_
      have HB := n4_
      clear n0_ n1_ n2_ n3_ n4_
      have n0_ := Am (bd BK555.out)
      have n1_ := Am (bd BK556.out)
      have n2_ := Am (bd BK557.out)
      have n3_ := Am (bd BK566.out)
      have n4_ := Am (b1 HB.out)
      clear BK555
      clear BK556
      clear BK557
      clear BK566
      clear HB
      have BK555 := n0_
      have BK556 := n1_
      have BK557 := n2_
      have BK566 := n3_
      have HB := n4_
      clear n0_ n1_ n2_ n3_ n4_
      refine start_ (n := 24) (S := fun w' => True) (ds := []) q17_10 (by kernel_rfl) rfl rfl trivial (fun hHeld => ?_); refine with_tabW shuttlecocklaw05_BatchBack.tab5 shuttlecocklaw05_BatchBack.bits5 (fun HT_ HW_ => ?_)
      generalize w68.drew = w69 at BK555 BK556 BK557 BK566 HB hHeld ⊢
      refine Own.pr_ 0 (some 52) q17_11 HT_ (h := ?_)
      refine Own.pr_ 1 (some 53) q17_12 HT_ (h := ?_)
      refine Own.pr_ 2 (some 54) q17_13 HT_ (h := ?_)
      refine Own.skips_ HT_.out [3, 4, 5, 6, 7, 8, 9, 10, 11, 12, 13, 14, 15, 16, 17, 18, 19, 20, 21, 22] [some 55, some 56, some 57, some 58, some 59, some 60, some 61, some 62, some 63, some 64, some 65, some 66, some 67, some 68, some 69, some 70, some 71, some 72, some 73, some 74] 1 21 _ q17_25 _ ?_ _ rfl (by kernel_rfl) (fun _ _ _ _ h => h) (by kernel_rfl) ?_ ?_
      rotate_left
      ·
       simp only [Own.putU, Act.put, sI, sZ, sS]
       rfl
      refine Own.pr_ 23 (some 75) q17_26 HT_ (h := ?_)
      refine done_ (done_of HT_.out (by kernel_rfl)) ?_
      try go_wp2
      go_meet
      case rel => exact ⟨_, (false), (by first | rfl | (simp; done) | (simp [*]; done)), H', ⟨by have := HJ3.out; first | omega | exact Nat.le_refl _⟩, ⟨by (with_reducible repeat (first | refine bn ?_ _ | refine bd ?_ | refine ba ?_ _)); exact BK555.out⟩, ⟨by (with_reducible repeat (first | refine bn ?_ _ | refine bd ?_ | refine ba ?_ _)); exact BK556.out⟩, ⟨by (with_reducible repeat (first | refine bn ?_ _ | refine bd ?_ | refine ba ?_ _)); exact BK557.out⟩, ⟨by (with_reducible repeat (first | refine bn ?_ _ | refine bd ?_ | refine ba ?_ _)); exact BK566.out⟩, ⟨by repeat (first | (with_reducible first | exact HB.out | apply bl | apply pN | apply b1 | refine bs ?_ GE555.out | refine bs ?_ GE556.out | refine bs ?_ GE557.out | refine bs ?_ GE566.out) | exact HB.out | exact HBo.out)⟩⟩
    case rest =>
     clear HC43
     try clear c1
     try clear p2
     try clear c5
     try clear c6
     try clear c13
     try clear c15
     try clear c50
     try clear c50b0
     try clear c50b1
     try clear c52
     try clear c53
     try clear c53b0
     try clear c59
     try clear c59b0
     try clear c59b1
     try clear c60
     try clear c60b0
     try clear c60b1
     obtain ⟨kq, x75_42, rfl, HA, HJ42, BK555, BK556, BK557, BK566, HB⟩ := hcut
     cases kq with
     | zero => exact absurd HA.out (by simp [shuttlecocklaw05_BatchBack.j1])
     | succ kj42 =>
      have H := HA.out
      clear HA
      simp only [shuttlecocklaw05_BatchBack.j1] at H
      by_cases c70 : x75_42 = true
      ·
       subst c70
       have H1 : (none) = some r := by rw [if_pos rfl] at H; exact H
       clear H
       have H := H1
       clear H1
       exact absurd H (by simp)
      ·
       replace c70 := Bool.eq_false_iff.mpr c70
       subst c70
       have H1 : ((batch_May.f a0_0 a0_1 a0_2 a0_3).bind fun t569 => (if t569 = true then ((batch_May.f a0_4 a0_5 a0_6 a0_7).bind fun t570 => (shuttlecocklaw05_BatchBack.j2 kj42 a2 (!t570) a0_0 a0_1 a0_2 a0_3 a0_4 a0_5 a0_6 a0_7)) else (shuttlecocklaw05_BatchBack.j2 kj42 a2 true a0_0 a0_1 a0_2 a0_3 a0_4 a0_5 a0_6 a0_7))) = some r := by rw [if_neg (show ¬ (false = true) by decide)] at H; exact H
       clear H
       have H := H1
       clear H1
       have HC71 := Am H
       clear H
       go_upto_region 7 with (fail)
       go_cut [83] (fun v83 wc => ∃ (kq : Nat) (x83_70 : Bool), v83 = .bool x83_70 ∧ Aside0 (shuttlecocklaw05_BatchBack.j2 kq a2 x83_70 a0_0 a0_1 a0_2 a0_3 a0_4 a0_5 a0_6 a0_7 = some r) ∧ Aside0 (kq ≤ kj42) ∧ Aside0 (wc.heap[gb555]? = some (.cells #[.int .i64 a0_0, .int .i64 a0_1, .int .i64 a0_2, .string a0_3, .int .i64 a0_4, .int .i64 a0_5, .int .i64 a0_6, .string a0_7] 37 (0, 0))) ∧ Aside0 (wc.heap[gb556]? = some (.cells #[.int .i64 a0_0, .int .i64 a0_1, .int .i64 a0_2, .string a0_3] 23 (0, 0))) ∧ Aside0 (wc.heap[gb557]? = some (.cells #[.int .i64 a0_4, .int .i64 a0_5, .int .i64 a0_6, .string a0_7] 23 (0, 0))) ∧ Aside0 (wc.heap[gb566]? = some (.cells #[.int .i64 t560, .int .i64 t561, .int .i64 t562, .string t563] 23 (0, 0))) ∧ Aside0 (Below w.heap.size w wc))
       case first =>
        have H := HC71.out
        clear HC71
        replace H := ob H
        obtain ⟨t569, A720, H⟩ := H
        replace H : (if t569 = true then ((batch_May.f a0_4 a0_5 a0_6 a0_7).bind fun t570 => (shuttlecocklaw05_BatchBack.j2 kj42 a2 (!t570) a0_0 a0_1 a0_2 a0_3 a0_4 a0_5 a0_6 a0_7)) else (shuttlecocklaw05_BatchBack.j2 kj42 a2 true a0_0 a0_1 a0_2 a0_3 a0_4 a0_5 a0_6 a0_7)) = some r := H
        have A72 := Am A720
        clear A720
        by_cases c73 : t569 = true
        ·
         subst c73
         have H1 : ((batch_May.f a0_4 a0_5 a0_6 a0_7).bind fun t570 => (shuttlecocklaw05_BatchBack.j2 kj42 a2 (!t570) a0_0 a0_1 a0_2 a0_3 a0_4 a0_5 a0_6 a0_7)) = some r := by rw [if_pos rfl] at H; exact H
         clear H
         have H := H1
         clear H1
         replace H := ob H
         obtain ⟨t570, A740, H⟩ := H
         replace H : (shuttlecocklaw05_BatchBack.j2 kj42 a2 (!t570) a0_0 a0_1 a0_2 a0_3 a0_4 a0_5 a0_6 a0_7) = some r := H
         have A74 := Am A740
         clear A740
         have H' := Am H
         clear H
         have hnb75 := NB556_555.out
         have hnc75 := NB555_556.out
         have hnb76 := NB556_557.out
         have hnc76 := NB557_556.out
         have hnb77 := NB556_566.out
         have hnc77 := NB566_556.out
         have hcz78_0 : wc.cell? ⟨gb556, 0, none⟩ = some (.int .i64 a0_0) := (bc BK556.out 0).trans rfl
         have hcz78_1 : wc.cell? ⟨gb556, 1, none⟩ = some (.int .i64 a0_1) := (bc BK556.out 1).trans rfl
         have hcz78_2 : wc.cell? ⟨gb556, 2, none⟩ = some (.int .i64 a0_2) := (bc BK556.out 2).trans rfl
         have hcz78_3 : wc.cell? ⟨gb556, 3, none⟩ = some (.string a0_3) := (bc BK556.out 3).trans rfl
         have hfz78_0 := bf BK556.out 0
         have hfz78_1 := bf BK556.out 1
         have hfz78_2 := bf BK556.out 2
         have hfz78_3 := bf BK556.out 3
         go_wp2_with (first | ((with_reducible refine gate_callee (f := 13) rfl ?_); refine goesL_ (some 77) rfl rfl Try.func13 (by kernel_rfl) rfl #[.agg #[.int .i64 a0_0, .int .i64 a0_1, .int .i64 a0_2, .string a0_3]] rfl (by (try simp only [List.map_toArray, List.map_cons, List.map_nil]); first | done | rfl | (simp only [List.length_drop, List.length_take]; rfl)) ?_; (with_reducible refine (batch_May.calls a0_0 a0_1 a0_2 a0_3 true _ A72.out).mono ?_); rintro e w79 ⟨rfl, hb⟩; refine ⟨_, rfl, ?_⟩; have n0_ := Am (blk_below (g := gb555) (o := .cells #[.int .i64 a0_0, .int .i64 a0_1, .int .i64 a0_2, .string a0_3, .int .i64 a0_4, .int .i64 a0_5, .int .i64 a0_6, .string a0_7] 37 (0, 0)) (by (with_reducible repeat (first | refine bn ?_ _ | refine bd ?_ | refine ba ?_ _)); exact BK555.out) hb); have n1_ := Am (blk_below (g := gb556) (o := .cells #[.int .i64 a0_0, .int .i64 a0_1, .int .i64 a0_2, .string a0_3] 23 (0, 0)) (by (with_reducible repeat (first | refine bn ?_ _ | refine bd ?_ | refine ba ?_ _)); exact BK556.out) hb); have n2_ := Am (blk_below (g := gb557) (o := .cells #[.int .i64 a0_4, .int .i64 a0_5, .int .i64 a0_6, .string a0_7] 23 (0, 0)) (by (with_reducible repeat (first | refine bn ?_ _ | refine bd ?_ | refine ba ?_ _)); exact BK557.out) hb); have n3_ := Am (blk_below (g := gb566) (o := .cells #[.int .i64 t560, .int .i64 t561, .int .i64 t562, .string t563] 23 (0, 0)) (by (with_reducible repeat (first | refine bn ?_ _ | refine bd ?_ | refine ba ?_ _)); exact BK566.out) hb); have n4_ := Am (below_step (by repeat (first | (with_reducible first | exact HB.out | apply bl | apply pN | apply b1 | refine bs ?_ GE555.out | refine bs ?_ GE556.out | refine bs ?_ GE557.out | refine bs ?_ GE566.out) | exact HB.out | exact HBo.out)) hb); clear BK555; clear BK556; clear BK557; clear BK566; clear HB; have BK555 := n0_; have BK556 := n1_; have BK557 := n2_; have BK566 := n3_; have HB := n4_; clear n0_ n1_ n2_ n3_ n4_; (try clear hb); (try clear hb2); (try clear hk); (try clear hi); have hnb80 := NB557_555.out; have hnc80 := NB555_557.out; have hnb81 := NB557_566.out; have hnc81 := NB566_557.out; have hcz82_0 : w79.cell? ⟨gb557, 0, none⟩ = some (.int .i64 a0_4) := (bc BK557.out 0).trans rfl; have hcz82_1 : w79.cell? ⟨gb557, 1, none⟩ = some (.int .i64 a0_5) := (bc BK557.out 1).trans rfl; have hcz82_2 : w79.cell? ⟨gb557, 2, none⟩ = some (.int .i64 a0_6) := (bc BK557.out 2).trans rfl; have hcz82_3 : w79.cell? ⟨gb557, 3, none⟩ = some (.string a0_7) := (bc BK557.out 3).trans rfl; have hfz82_0 := bf BK557.out 0; have hfz82_1 := bf BK557.out 1; have hfz82_2 := bf BK557.out 2; have hfz82_3 := bf BK557.out 3) | (go_at_call 13; (with_reducible refine (batch_May.calls a0_4 a0_5 a0_6 a0_7 t570 _ A74.out).mono ?_); rintro e w83 ⟨rfl, hb⟩; have n0_ := Am (blk_below (g := gb555) (o := .cells #[.int .i64 a0_0, .int .i64 a0_1, .int .i64 a0_2, .string a0_3, .int .i64 a0_4, .int .i64 a0_5, .int .i64 a0_6, .string a0_7] 37 (0, 0)) (by (with_reducible repeat (first | refine bn ?_ _ | refine bd ?_ | refine ba ?_ _)); exact BK555.out) hb); have n1_ := Am (blk_below (g := gb556) (o := .cells #[.int .i64 a0_0, .int .i64 a0_1, .int .i64 a0_2, .string a0_3] 23 (0, 0)) (by (with_reducible repeat (first | refine bn ?_ _ | refine bd ?_ | refine ba ?_ _)); exact BK556.out) hb); have n2_ := Am (blk_below (g := gb557) (o := .cells #[.int .i64 a0_4, .int .i64 a0_5, .int .i64 a0_6, .string a0_7] 23 (0, 0)) (by (with_reducible repeat (first | refine bn ?_ _ | refine bd ?_ | refine ba ?_ _)); exact BK557.out) hb); have n3_ := Am (blk_below (g := gb566) (o := .cells #[.int .i64 t560, .int .i64 t561, .int .i64 t562, .string t563] 23 (0, 0)) (by (with_reducible repeat (first | refine bn ?_ _ | refine bd ?_ | refine ba ?_ _)); exact BK566.out) hb); have n4_ := Am (below_step (by repeat (first | (with_reducible first | exact HB.out | apply bl | apply pN | apply b1 | refine bs ?_ GE555.out | refine bs ?_ GE556.out | refine bs ?_ GE557.out | refine bs ?_ GE566.out) | exact HB.out | exact HBo.out)) hb); clear BK555; clear BK556; clear BK557; clear BK566; clear HB; have BK555 := n0_; have BK556 := n1_; have BK557 := n2_; have BK566 := n3_; have HB := n4_; clear n0_ n1_ n2_ n3_ n4_; (try clear hb); (try clear hb2); (try clear hk); (try clear hi)))
         go_meet
         case rel => exact ⟨_, (!t570), (by first | rfl | (simp; done) | (simp [*]; done)), H', ⟨by have := HJ3.out; have := HJ42.out; first | omega | exact Nat.le_refl _⟩, ⟨by (with_reducible repeat (first | refine bn ?_ _ | refine bd ?_ | refine ba ?_ _)); exact BK555.out⟩, ⟨by (with_reducible repeat (first | refine bn ?_ _ | refine bd ?_ | refine ba ?_ _)); exact BK556.out⟩, ⟨by (with_reducible repeat (first | refine bn ?_ _ | refine bd ?_ | refine ba ?_ _)); exact BK557.out⟩, ⟨by (with_reducible repeat (first | refine bn ?_ _ | refine bd ?_ | refine ba ?_ _)); exact BK566.out⟩, ⟨by repeat (first | (with_reducible first | exact HB.out | apply bl | apply pN | apply b1 | refine bs ?_ GE555.out | refine bs ?_ GE556.out | refine bs ?_ GE557.out | refine bs ?_ GE566.out) | exact HB.out | exact HBo.out)⟩⟩
        ·
         replace c73 := Bool.eq_false_iff.mpr c73
         subst c73
         have H1 : (shuttlecocklaw05_BatchBack.j2 kj42 a2 true a0_0 a0_1 a0_2 a0_3 a0_4 a0_5 a0_6 a0_7) = some r := by rw [if_neg (show ¬ (false = true) by decide)] at H; exact H
         clear H
         have H := H1
         clear H1
         have H' := Am H
         clear H
         have hnb84 := NB556_555.out
         have hnc84 := NB555_556.out
         have hnb85 := NB556_557.out
         have hnc85 := NB557_556.out
         have hnb86 := NB556_566.out
         have hnc86 := NB566_556.out
         have hcz87_0 : wc.cell? ⟨gb556, 0, none⟩ = some (.int .i64 a0_0) := (bc BK556.out 0).trans rfl
         have hcz87_1 : wc.cell? ⟨gb556, 1, none⟩ = some (.int .i64 a0_1) := (bc BK556.out 1).trans rfl
         have hcz87_2 : wc.cell? ⟨gb556, 2, none⟩ = some (.int .i64 a0_2) := (bc BK556.out 2).trans rfl
         have hcz87_3 : wc.cell? ⟨gb556, 3, none⟩ = some (.string a0_3) := (bc BK556.out 3).trans rfl
         have hfz87_0 := bf BK556.out 0
         have hfz87_1 := bf BK556.out 1
         have hfz87_2 := bf BK556.out 2
         have hfz87_3 := bf BK556.out 3
         go_wp2_with (first | ((with_reducible refine gate_callee (f := 13) rfl ?_); refine goesL_ (some 77) rfl rfl Try.func13 (by kernel_rfl) rfl #[.agg #[.int .i64 a0_0, .int .i64 a0_1, .int .i64 a0_2, .string a0_3]] rfl (by (try simp only [List.map_toArray, List.map_cons, List.map_nil]); first | done | rfl | (simp only [List.length_drop, List.length_take]; rfl)) ?_; (with_reducible refine (batch_May.calls a0_0 a0_1 a0_2 a0_3 false _ A72.out).mono ?_); rintro e w88 ⟨rfl, hb⟩; refine ⟨_, rfl, ?_⟩; have n0_ := Am (blk_below (g := gb555) (o := .cells #[.int .i64 a0_0, .int .i64 a0_1, .int .i64 a0_2, .string a0_3, .int .i64 a0_4, .int .i64 a0_5, .int .i64 a0_6, .string a0_7] 37 (0, 0)) (by (with_reducible repeat (first | refine bn ?_ _ | refine bd ?_ | refine ba ?_ _)); exact BK555.out) hb); have n1_ := Am (blk_below (g := gb556) (o := .cells #[.int .i64 a0_0, .int .i64 a0_1, .int .i64 a0_2, .string a0_3] 23 (0, 0)) (by (with_reducible repeat (first | refine bn ?_ _ | refine bd ?_ | refine ba ?_ _)); exact BK556.out) hb); have n2_ := Am (blk_below (g := gb557) (o := .cells #[.int .i64 a0_4, .int .i64 a0_5, .int .i64 a0_6, .string a0_7] 23 (0, 0)) (by (with_reducible repeat (first | refine bn ?_ _ | refine bd ?_ | refine ba ?_ _)); exact BK557.out) hb); have n3_ := Am (blk_below (g := gb566) (o := .cells #[.int .i64 t560, .int .i64 t561, .int .i64 t562, .string t563] 23 (0, 0)) (by (with_reducible repeat (first | refine bn ?_ _ | refine bd ?_ | refine ba ?_ _)); exact BK566.out) hb); have n4_ := Am (below_step (by repeat (first | (with_reducible first | exact HB.out | apply bl | apply pN | apply b1 | refine bs ?_ GE555.out | refine bs ?_ GE556.out | refine bs ?_ GE557.out | refine bs ?_ GE566.out) | exact HB.out | exact HBo.out)) hb); clear BK555; clear BK556; clear BK557; clear BK566; clear HB; have BK555 := n0_; have BK556 := n1_; have BK557 := n2_; have BK566 := n3_; have HB := n4_; clear n0_ n1_ n2_ n3_ n4_; (try clear hb); (try clear hb2); (try clear hk); (try clear hi)))
         go_meet
         case rel => exact ⟨_, (true), (by first | rfl | (simp; done) | (simp [*]; done)), H', ⟨by have := HJ3.out; have := HJ42.out; first | omega | exact Nat.le_refl _⟩, ⟨by (with_reducible repeat (first | refine bn ?_ _ | refine bd ?_ | refine ba ?_ _)); exact BK555.out⟩, ⟨by (with_reducible repeat (first | refine bn ?_ _ | refine bd ?_ | refine ba ?_ _)); exact BK556.out⟩, ⟨by (with_reducible repeat (first | refine bn ?_ _ | refine bd ?_ | refine ba ?_ _)); exact BK557.out⟩, ⟨by (with_reducible repeat (first | refine bn ?_ _ | refine bd ?_ | refine ba ?_ _)); exact BK566.out⟩, ⟨by repeat (first | (with_reducible first | exact HB.out | apply bl | apply pN | apply b1 | refine bs ?_ GE555.out | refine bs ?_ GE556.out | refine bs ?_ GE557.out | refine bs ?_ GE566.out) | exact HB.out | exact HBo.out)⟩⟩
       case rest =>
        clear HC71
        try clear c1
        try clear p2
        try clear c5
        try clear c6
        try clear c7
        try clear c8
        try clear c13
        try clear c15
        try clear c50
        try clear c50b0
        try clear c50b1
        try clear c52
        try clear c53
        try clear c53b0
        try clear c59
        try clear c59b0
        try clear c59b1
        try clear c60
        try clear c60b0
        try clear c60b1
        try clear c70
        try clear c73
        try clear c75
        try clear c76
        try clear c77
        try clear c80
        try clear c81
        try clear c84
        try clear c85
        try clear c86
        try clear hcz78_0
        try clear hcz78_1
        try clear hcz78_2
        try clear hcz78_3
        try clear hcz82_0
        try clear hcz82_1
        try clear hcz82_2
        try clear hcz82_3
        try clear hcz87_0
        try clear hcz87_1
        try clear hcz87_2
        try clear hcz87_3
        try clear hfz78_0
        try clear hfz78_1
        try clear hfz78_2
        try clear hfz78_3
        try clear hfz82_0
        try clear hfz82_1
        try clear hfz82_2
        try clear hfz82_3
        try clear hfz87_0
        try clear hfz87_1
        try clear hfz87_2
        try clear hfz87_3
        try clear p2
        obtain ⟨kq, x83_70, rfl, HA, HJ70, BK555, BK556, BK557, BK566, HB⟩ := hcut
        cases kq with
        | zero => exact absurd HA.out (by simp [shuttlecocklaw05_BatchBack.j2])
        | succ kj70 =>
         have H := HA.out
         clear HA
         simp only [shuttlecocklaw05_BatchBack.j2] at H
         by_cases c89 : x83_70 = true
         ·
          subst c89
          have H1 : (some true) = some r := by rw [if_pos rfl] at H; exact H
          clear H
          have H := H1
          clear H1
          obtain rfl := Option.some.inj H
          go_wp2
          go_ret
          exact ⟨by first | rfl | (simp [errW_none, errW_some] <;> rfl) | (simp [*, errW_none, errW_some] <;> rfl) | (simp [Aid.ne_nil, Aid.eq_nil, errW_none, errW_some]; done), by repeat (first | (with_reducible first | exact HB.out | apply bl | apply pN | apply b1 | refine bs ?_ GE555.out | refine bs ?_ GE556.out | refine bs ?_ GE557.out | refine bs ?_ GE566.out) | exact HB.out | exact HBo.out)⟩
         ·
          replace c89 := Bool.eq_false_iff.mpr c89
          subst c89
          have H1 : ((batch_Encode.f kj70 a0_0 a0_1 a0_2 a0_3).bind fun t571 => ((batch_Encode.f kj70 a0_4 a0_5 a0_6 a0_7).bind fun t572 => (if t571.size + t572.size ≤ 9223372036854775807 then ((batch_Decode.f kj70 (t571 ++ t572) 0).bind fun bt573 => ((batch_Encode.f kj70 a0_4 a0_5 a0_6 a0_7).bind fun t580 => (if t571.size + t580.size ≤ 9223372036854775807 then ((batch_Decode.f kj70 (t571 ++ t580) bt573.2.2.2.2.1).bind fun bt581 => (if bt573.2.2.2.2.2 = 0 then (if bt581.2.2.2.2.2 = 0 then (if (!(bt573.1 == a0_0) || (!(bt573.2.1 == a0_1) || (!(bt573.2.2.1 == a0_2) || (!(bt573.2.2.2.1.toList == a0_3.toList))))) = true then (shuttlecocklaw05_BatchBack.j3 kj70 a2 t571 true) else (if (!(bt581.1 == a0_4) || (!(bt581.2.1 == a0_5) || (!(bt581.2.2.1 == a0_6) || (!(bt581.2.2.2.1.toList == a0_7.toList))))) = true then (shuttlecocklaw05_BatchBack.j3 kj70 a2 t571 true) else (if bt573.2.2.2.2.1 = (t571.size : Int) then ((batch_Encode.f kj70 a0_4 a0_5 a0_6 a0_7).bind fun t588 => (shuttlecocklaw05_BatchBack.j3 kj70 a2 t571 (bt581.2.2.2.2.1 != (wrap64 (bt573.2.2.2.2.1 + (t588.size : Int)))))) else (shuttlecocklaw05_BatchBack.j3 kj70 a2 t571 true)))) else (shuttlecocklaw05_BatchBack.j3 kj70 a2 t571 true)) else (shuttlecocklaw05_BatchBack.j3 kj70 a2 t571 true))) else (none)))) else (none)))) = some r := by rw [if_neg (show ¬ (false = true) by decide)] at H; exact H
          clear H
          have H := H1
          clear H1
          replace H := ob H
          obtain ⟨t571, A900, H⟩ := H
          replace H : ((batch_Encode.f kj70 a0_4 a0_5 a0_6 a0_7).bind fun t572 => (if t571.size + t572.size ≤ 9223372036854775807 then ((batch_Decode.f kj70 (t571 ++ t572) 0).bind fun bt573 => ((batch_Encode.f kj70 a0_4 a0_5 a0_6 a0_7).bind fun t580 => (if t571.size + t580.size ≤ 9223372036854775807 then ((batch_Decode.f kj70 (t571 ++ t580) bt573.2.2.2.2.1).bind fun bt581 => (if bt573.2.2.2.2.2 = 0 then (if bt581.2.2.2.2.2 = 0 then (if (!(bt573.1 == a0_0) || (!(bt573.2.1 == a0_1) || (!(bt573.2.2.1 == a0_2) || (!(bt573.2.2.2.1.toList == a0_3.toList))))) = true then (shuttlecocklaw05_BatchBack.j3 kj70 a2 t571 true) else (if (!(bt581.1 == a0_4) || (!(bt581.2.1 == a0_5) || (!(bt581.2.2.1 == a0_6) || (!(bt581.2.2.2.1.toList == a0_7.toList))))) = true then (shuttlecocklaw05_BatchBack.j3 kj70 a2 t571 true) else (if bt573.2.2.2.2.1 = (t571.size : Int) then ((batch_Encode.f kj70 a0_4 a0_5 a0_6 a0_7).bind fun t588 => (shuttlecocklaw05_BatchBack.j3 kj70 a2 t571 (bt581.2.2.2.2.1 != (wrap64 (bt573.2.2.2.2.1 + (t588.size : Int)))))) else (shuttlecocklaw05_BatchBack.j3 kj70 a2 t571 true)))) else (shuttlecocklaw05_BatchBack.j3 kj70 a2 t571 true)) else (shuttlecocklaw05_BatchBack.j3 kj70 a2 t571 true))) else (none)))) else (none))) = some r := H
          have A90 := Am A900
          clear A900
          replace H := ob H
          obtain ⟨t572, A910, H⟩ := H
          replace H : (if t571.size + t572.size ≤ 9223372036854775807 then ((batch_Decode.f kj70 (t571 ++ t572) 0).bind fun bt573 => ((batch_Encode.f kj70 a0_4 a0_5 a0_6 a0_7).bind fun t580 => (if t571.size + t580.size ≤ 9223372036854775807 then ((batch_Decode.f kj70 (t571 ++ t580) bt573.2.2.2.2.1).bind fun bt581 => (if bt573.2.2.2.2.2 = 0 then (if bt581.2.2.2.2.2 = 0 then (if (!(bt573.1 == a0_0) || (!(bt573.2.1 == a0_1) || (!(bt573.2.2.1 == a0_2) || (!(bt573.2.2.2.1.toList == a0_3.toList))))) = true then (shuttlecocklaw05_BatchBack.j3 kj70 a2 t571 true) else (if (!(bt581.1 == a0_4) || (!(bt581.2.1 == a0_5) || (!(bt581.2.2.1 == a0_6) || (!(bt581.2.2.2.1.toList == a0_7.toList))))) = true then (shuttlecocklaw05_BatchBack.j3 kj70 a2 t571 true) else (if bt573.2.2.2.2.1 = (t571.size : Int) then ((batch_Encode.f kj70 a0_4 a0_5 a0_6 a0_7).bind fun t588 => (shuttlecocklaw05_BatchBack.j3 kj70 a2 t571 (bt581.2.2.2.2.1 != (wrap64 (bt573.2.2.2.2.1 + (t588.size : Int)))))) else (shuttlecocklaw05_BatchBack.j3 kj70 a2 t571 true)))) else (shuttlecocklaw05_BatchBack.j3 kj70 a2 t571 true)) else (shuttlecocklaw05_BatchBack.j3 kj70 a2 t571 true))) else (none)))) else (none)) = some r := H
          have A91 := Am A910
          clear A910
          by_cases c92 : t571.size + t572.size ≤ 9223372036854775807
          ·
           rw [if_pos c92] at H
           have c92b0 := eq_true c92
           have c92b1 : decide (t571.size + t572.size ≤ 9223372036854775807) = true := decide_eq_true c92
           try have c92b2 : (9223372036854775807 < t571.size + t572.size) = False := eq_false (Nat.not_lt.2 c92)
           replace H := ob H
           obtain ⟨⟨t573, t574, t575, t576, t577, t578⟩, A930, H⟩ := H
           replace H : ((batch_Encode.f kj70 a0_4 a0_5 a0_6 a0_7).bind fun t580 => (if t571.size + t580.size ≤ 9223372036854775807 then ((batch_Decode.f kj70 (t571 ++ t580) t577).bind fun bt581 => (if t578 = 0 then (if bt581.2.2.2.2.2 = 0 then (if (!(t573 == a0_0) || (!(t574 == a0_1) || (!(t575 == a0_2) || (!(t576.toList == a0_3.toList))))) = true then (shuttlecocklaw05_BatchBack.j3 kj70 a2 t571 true) else (if (!(bt581.1 == a0_4) || (!(bt581.2.1 == a0_5) || (!(bt581.2.2.1 == a0_6) || (!(bt581.2.2.2.1.toList == a0_7.toList))))) = true then (shuttlecocklaw05_BatchBack.j3 kj70 a2 t571 true) else (if t577 = (t571.size : Int) then ((batch_Encode.f kj70 a0_4 a0_5 a0_6 a0_7).bind fun t588 => (shuttlecocklaw05_BatchBack.j3 kj70 a2 t571 (bt581.2.2.2.2.1 != (wrap64 (t577 + (t588.size : Int)))))) else (shuttlecocklaw05_BatchBack.j3 kj70 a2 t571 true)))) else (shuttlecocklaw05_BatchBack.j3 kj70 a2 t571 true)) else (shuttlecocklaw05_BatchBack.j3 kj70 a2 t571 true))) else (none))) = some r := H
           have A93 := Am A930
           clear A930
           replace H := ob H
           obtain ⟨t580, A940, H⟩ := H
           replace H : (if t571.size + t580.size ≤ 9223372036854775807 then ((batch_Decode.f kj70 (t571 ++ t580) t577).bind fun bt581 => (if t578 = 0 then (if bt581.2.2.2.2.2 = 0 then (if (!(t573 == a0_0) || (!(t574 == a0_1) || (!(t575 == a0_2) || (!(t576.toList == a0_3.toList))))) = true then (shuttlecocklaw05_BatchBack.j3 kj70 a2 t571 true) else (if (!(bt581.1 == a0_4) || (!(bt581.2.1 == a0_5) || (!(bt581.2.2.1 == a0_6) || (!(bt581.2.2.2.1.toList == a0_7.toList))))) = true then (shuttlecocklaw05_BatchBack.j3 kj70 a2 t571 true) else (if t577 = (t571.size : Int) then ((batch_Encode.f kj70 a0_4 a0_5 a0_6 a0_7).bind fun t588 => (shuttlecocklaw05_BatchBack.j3 kj70 a2 t571 (bt581.2.2.2.2.1 != (wrap64 (t577 + (t588.size : Int)))))) else (shuttlecocklaw05_BatchBack.j3 kj70 a2 t571 true)))) else (shuttlecocklaw05_BatchBack.j3 kj70 a2 t571 true)) else (shuttlecocklaw05_BatchBack.j3 kj70 a2 t571 true))) else (none)) = some r := H
           have A94 := Am A940
           clear A940
           by_cases c95 : t571.size + t580.size ≤ 9223372036854775807
           ·
            rw [if_pos c95] at H
            have c95b0 := eq_true c95
            have c95b1 : decide (t571.size + t580.size ≤ 9223372036854775807) = true := decide_eq_true c95
            try have c95b2 : (9223372036854775807 < t571.size + t580.size) = False := eq_false (Nat.not_lt.2 c95)
            replace H := ob H
            obtain ⟨⟨t581, t582, t583, t584, t585, t586⟩, A960, H⟩ := H
            replace H : (if t578 = 0 then (if t586 = 0 then (if (!(t573 == a0_0) || (!(t574 == a0_1) || (!(t575 == a0_2) || (!(t576.toList == a0_3.toList))))) = true then (shuttlecocklaw05_BatchBack.j3 kj70 a2 t571 true) else (if (!(t581 == a0_4) || (!(t582 == a0_5) || (!(t583 == a0_6) || (!(t584.toList == a0_7.toList))))) = true then (shuttlecocklaw05_BatchBack.j3 kj70 a2 t571 true) else (if t577 = (t571.size : Int) then ((batch_Encode.f kj70 a0_4 a0_5 a0_6 a0_7).bind fun t588 => (shuttlecocklaw05_BatchBack.j3 kj70 a2 t571 (t585 != (wrap64 (t577 + (t588.size : Int)))))) else (shuttlecocklaw05_BatchBack.j3 kj70 a2 t571 true)))) else (shuttlecocklaw05_BatchBack.j3 kj70 a2 t571 true)) else (shuttlecocklaw05_BatchBack.j3 kj70 a2 t571 true)) = some r := H
            have A96 := Am A960
            clear A960
            have HC97 := Am H
            clear H
            have hnb98 := NB556_555.out
            have hnc98 := NB555_556.out
            have hnb99 := NB556_557.out
            have hnc99 := NB557_556.out
            have hnb100 := NB556_566.out
            have hnc100 := NB566_556.out
            have hcz101_0 : wc.cell? ⟨gb556, 0, none⟩ = some (.int .i64 a0_0) := (bc BK556.out 0).trans rfl
            have hcz101_1 : wc.cell? ⟨gb556, 1, none⟩ = some (.int .i64 a0_1) := (bc BK556.out 1).trans rfl
            have hcz101_2 : wc.cell? ⟨gb556, 2, none⟩ = some (.int .i64 a0_2) := (bc BK556.out 2).trans rfl
            have hcz101_3 : wc.cell? ⟨gb556, 3, none⟩ = some (.string a0_3) := (bc BK556.out 3).trans rfl
            have hfz101_0 := bf BK556.out 0
            have hfz101_1 := bf BK556.out 1
            have hfz101_2 := bf BK556.out 2
            have hfz101_3 := bf BK556.out 3
            go_upto_region 12 with (first | ((with_reducible refine gate_callee (f := 15) rfl ?_); refine goesL_ (some 85) rfl rfl Try.func15 (by kernel_rfl) rfl #[.agg #[.int .i64 a0_0, .int .i64 a0_1, .int .i64 a0_2, .string a0_3]] rfl (by (try simp only [List.map_toArray, List.map_cons, List.map_nil]); first | done | rfl | (simp only [List.length_drop, List.length_take]; rfl)) ?_; (with_reducible refine (batch_Encode.calls kj70 a0_0 a0_1 a0_2 a0_3 t571 _ A90.out).mono ?_); rintro e w102 ⟨rfl, hb⟩; refine ⟨_, rfl, ?_⟩; have n0_ := Am (blk_below (g := gb555) (o := .cells #[.int .i64 a0_0, .int .i64 a0_1, .int .i64 a0_2, .string a0_3, .int .i64 a0_4, .int .i64 a0_5, .int .i64 a0_6, .string a0_7] 37 (0, 0)) (by (with_reducible repeat (first | refine bn ?_ _ | refine bd ?_ | refine ba ?_ _)); exact BK555.out) hb); have n1_ := Am (blk_below (g := gb556) (o := .cells #[.int .i64 a0_0, .int .i64 a0_1, .int .i64 a0_2, .string a0_3] 23 (0, 0)) (by (with_reducible repeat (first | refine bn ?_ _ | refine bd ?_ | refine ba ?_ _)); exact BK556.out) hb); have n2_ := Am (blk_below (g := gb557) (o := .cells #[.int .i64 a0_4, .int .i64 a0_5, .int .i64 a0_6, .string a0_7] 23 (0, 0)) (by (with_reducible repeat (first | refine bn ?_ _ | refine bd ?_ | refine ba ?_ _)); exact BK557.out) hb); have n3_ := Am (blk_below (g := gb566) (o := .cells #[.int .i64 t560, .int .i64 t561, .int .i64 t562, .string t563] 23 (0, 0)) (by (with_reducible repeat (first | refine bn ?_ _ | refine bd ?_ | refine ba ?_ _)); exact BK566.out) hb); have n4_ := Am (below_step (by repeat (first | (with_reducible first | exact HB.out | apply bl | apply pN | apply b1 | refine bs ?_ GE555.out | refine bs ?_ GE556.out | refine bs ?_ GE557.out | refine bs ?_ GE566.out) | exact HB.out | exact HBo.out)) hb); clear BK555; clear BK556; clear BK557; clear BK566; clear HB; have BK555 := n0_; have BK556 := n1_; have BK557 := n2_; have BK566 := n3_; have HB := n4_; clear n0_ n1_ n2_ n3_ n4_; (try clear hb); (try clear hb2); (try clear hk); (try clear hi); have hnb103 := NB557_555.out; have hnc103 := NB555_557.out; have hnb104 := NB557_566.out; have hnc104 := NB566_557.out; have hcz105_0 : w102.cell? ⟨gb557, 0, none⟩ = some (.int .i64 a0_4) := (bc BK557.out 0).trans rfl; have hcz105_1 : w102.cell? ⟨gb557, 1, none⟩ = some (.int .i64 a0_5) := (bc BK557.out 1).trans rfl; have hcz105_2 : w102.cell? ⟨gb557, 2, none⟩ = some (.int .i64 a0_6) := (bc BK557.out 2).trans rfl; have hcz105_3 : w102.cell? ⟨gb557, 3, none⟩ = some (.string a0_7) := (bc BK557.out 3).trans rfl; have hfz105_0 := bf BK557.out 0; have hfz105_1 := bf BK557.out 1; have hfz105_2 := bf BK557.out 2; have hfz105_3 := bf BK557.out 3) | ((with_reducible refine gate_callee (f := 15) rfl ?_); refine goesL_ (some 89) rfl rfl Try.func15 (by kernel_rfl) rfl #[.agg #[.int .i64 a0_4, .int .i64 a0_5, .int .i64 a0_6, .string a0_7]] rfl (by (try simp only [List.map_toArray, List.map_cons, List.map_nil]); first | done | rfl | (simp only [List.length_drop, List.length_take]; rfl)) ?_; (with_reducible refine (batch_Encode.calls kj70 a0_4 a0_5 a0_6 a0_7 t572 _ A91.out).mono ?_); rintro e w106 ⟨rfl, hb⟩; refine ⟨_, rfl, ?_⟩; have n0_ := Am (blk_below (g := gb555) (o := .cells #[.int .i64 a0_0, .int .i64 a0_1, .int .i64 a0_2, .string a0_3, .int .i64 a0_4, .int .i64 a0_5, .int .i64 a0_6, .string a0_7] 37 (0, 0)) (by (with_reducible repeat (first | refine bn ?_ _ | refine bd ?_ | refine ba ?_ _)); exact BK555.out) hb); have n1_ := Am (blk_below (g := gb556) (o := .cells #[.int .i64 a0_0, .int .i64 a0_1, .int .i64 a0_2, .string a0_3] 23 (0, 0)) (by (with_reducible repeat (first | refine bn ?_ _ | refine bd ?_ | refine ba ?_ _)); exact BK556.out) hb); have n2_ := Am (blk_below (g := gb557) (o := .cells #[.int .i64 a0_4, .int .i64 a0_5, .int .i64 a0_6, .string a0_7] 23 (0, 0)) (by (with_reducible repeat (first | refine bn ?_ _ | refine bd ?_ | refine ba ?_ _)); exact BK557.out) hb); have n3_ := Am (blk_below (g := gb566) (o := .cells #[.int .i64 t560, .int .i64 t561, .int .i64 t562, .string t563] 23 (0, 0)) (by (with_reducible repeat (first | refine bn ?_ _ | refine bd ?_ | refine ba ?_ _)); exact BK566.out) hb); have n4_ := Am (below_step (by repeat (first | (with_reducible first | exact HB.out | apply bl | apply pN | apply b1 | refine bs ?_ GE555.out | refine bs ?_ GE556.out | refine bs ?_ GE557.out | refine bs ?_ GE566.out) | exact HB.out | exact HBo.out)) hb); clear BK555; clear BK556; clear BK557; clear BK566; clear HB; have BK555 := n0_; have BK556 := n1_; have BK557 := n2_; have BK566 := n3_; have HB := n4_; clear n0_ n1_ n2_ n3_ n4_; (try clear hb); (try clear hb2); (try clear hk); (try clear hi)) | ((with_reducible refine gate_callee (f := 9) rfl ?_); refine goesL_ (some 91) rfl rfl Try.func9 (by kernel_rfl) rfl #[.string (t571 ++ t572), .int .i64 0] rfl (by (try simp only [List.map_toArray, List.map_cons, List.map_nil]); first | done | rfl | (simp only [List.length_drop, List.length_take]; rfl)) ?_; (with_reducible refine (batch_Decode.calls kj70 (t571 ++ t572) 0 t573 t574 t575 t576 t577 t578 _ A93.out).mono ?_); rintro e w107 ⟨rfl, hb⟩; refine ⟨_, rfl, ?_⟩; have n0_ := Am (blk_below (g := gb555) (o := .cells #[.int .i64 a0_0, .int .i64 a0_1, .int .i64 a0_2, .string a0_3, .int .i64 a0_4, .int .i64 a0_5, .int .i64 a0_6, .string a0_7] 37 (0, 0)) (by (with_reducible repeat (first | refine bn ?_ _ | refine bd ?_ | refine ba ?_ _)); exact BK555.out) hb); have n1_ := Am (blk_below (g := gb556) (o := .cells #[.int .i64 a0_0, .int .i64 a0_1, .int .i64 a0_2, .string a0_3] 23 (0, 0)) (by (with_reducible repeat (first | refine bn ?_ _ | refine bd ?_ | refine ba ?_ _)); exact BK556.out) hb); have n2_ := Am (blk_below (g := gb557) (o := .cells #[.int .i64 a0_4, .int .i64 a0_5, .int .i64 a0_6, .string a0_7] 23 (0, 0)) (by (with_reducible repeat (first | refine bn ?_ _ | refine bd ?_ | refine ba ?_ _)); exact BK557.out) hb); have n3_ := Am (blk_below (g := gb566) (o := .cells #[.int .i64 t560, .int .i64 t561, .int .i64 t562, .string t563] 23 (0, 0)) (by (with_reducible repeat (first | refine bn ?_ _ | refine bd ?_ | refine ba ?_ _)); exact BK566.out) hb); have n4_ := Am (below_step (by repeat (first | (with_reducible first | exact HB.out | apply bl | apply pN | apply b1 | refine bs ?_ GE555.out | refine bs ?_ GE556.out | refine bs ?_ GE557.out | refine bs ?_ GE566.out) | exact HB.out | exact HBo.out)) hb); clear BK555; clear BK556; clear BK557; clear BK566; clear HB; have BK555 := n0_; have BK556 := n1_; have BK557 := n2_; have BK566 := n3_; have HB := n4_; clear n0_ n1_ n2_ n3_ n4_; (try clear hb); (try clear hb2); (try clear hk); (try clear hi)) | ((with_reducible refine gate_dst (N := 13) rfl ?_); (try (refine gate_guard (by rfl) ?_; dsimp only)); refine box_event ?hg (N := 13) ?hd (cs := #[.int .i64 0, .int .i64 0, .int .i64 0, .string (⟨#[]⟩ : ByteArray)]) (t := 23) ?hr ?_; (case hd => rfl); (case hg => rfl); (case hr => first | (go_simp; done) | (go_simp; rfl)); intro gb579 hg w108 hbox hb; have n0_ := Am (blk_below (g := gb555) (o := .cells #[.int .i64 a0_0, .int .i64 a0_1, .int .i64 a0_2, .string a0_3, .int .i64 a0_4, .int .i64 a0_5, .int .i64 a0_6, .string a0_7] 37 (0, 0)) (by (with_reducible repeat (first | refine bn ?_ _ | refine bd ?_ | refine ba ?_ _)); exact BK555.out) hb); have n1_ := Am (blk_below (g := gb556) (o := .cells #[.int .i64 a0_0, .int .i64 a0_1, .int .i64 a0_2, .string a0_3] 23 (0, 0)) (by (with_reducible repeat (first | refine bn ?_ _ | refine bd ?_ | refine ba ?_ _)); exact BK556.out) hb); have n2_ := Am (blk_below (g := gb557) (o := .cells #[.int .i64 a0_4, .int .i64 a0_5, .int .i64 a0_6, .string a0_7] 23 (0, 0)) (by (with_reducible repeat (first | refine bn ?_ _ | refine bd ?_ | refine ba ?_ _)); exact BK557.out) hb); have n3_ := Am (blk_below (g := gb566) (o := .cells #[.int .i64 t560, .int .i64 t561, .int .i64 t562, .string t563] 23 (0, 0)) (by (with_reducible repeat (first | refine bn ?_ _ | refine bd ?_ | refine ba ?_ _)); exact BK566.out) hb); have n4_ := Am (below_step (by repeat (first | (with_reducible first | exact HB.out | apply bl | apply pN | apply b1 | refine bs ?_ GE555.out | refine bs ?_ GE556.out | refine bs ?_ GE557.out | refine bs ?_ GE566.out) | exact HB.out | exact HBo.out)) hb); have n5_ := Am (hbox); have n6_ := Am ((by rw [hg]; exact (below_size (by repeat (first | (with_reducible first | exact HB.out | apply bl | apply pN | apply b1 | refine bs ?_ GE555.out | refine bs ?_ GE556.out | refine bs ?_ GE557.out | refine bs ?_ GE566.out) | exact HB.out | exact HBo.out))) : w.heap.size ≤ gb579)); have n7_ := Am ((by rw [hg]; exact (below_size (by repeat (first | (with_reducible first | exact HB.out | apply bl | apply pN | apply b1 | refine bs ?_ GE555.out | refine bs ?_ GE556.out | refine bs ?_ GE557.out | refine bs ?_ GE566.out) | exact HB.out | exact HBo.out))) : w.heap.size ≤ gb579)); have n8_ := Am ((by rw [hg]; exact Nat.ne_of_lt (blk_lt (g := gb555) (o := .cells #[.int .i64 a0_0, .int .i64 a0_1, .int .i64 a0_2, .string a0_3, .int .i64 a0_4, .int .i64 a0_5, .int .i64 a0_6, .string a0_7] 37 (0, 0)) (by (with_reducible repeat (first | refine bn ?_ _ | refine bd ?_ | refine ba ?_ _)); exact BK555.out)) : gb555 ≠ gb579)); have n9_ := Am ((by rw [hg]; exact Nat.ne_of_gt (blk_lt (g := gb555) (o := .cells #[.int .i64 a0_0, .int .i64 a0_1, .int .i64 a0_2, .string a0_3, .int .i64 a0_4, .int .i64 a0_5, .int .i64 a0_6, .string a0_7] 37 (0, 0)) (by (with_reducible repeat (first | refine bn ?_ _ | refine bd ?_ | refine ba ?_ _)); exact BK555.out)) : gb579 ≠ gb555)); have n10_ := Am ((by rw [hg]; exact Nat.ne_of_lt (blk_lt (g := gb556) (o := .cells #[.int .i64 a0_0, .int .i64 a0_1, .int .i64 a0_2, .string a0_3] 23 (0, 0)) (by (with_reducible repeat (first | refine bn ?_ _ | refine bd ?_ | refine ba ?_ _)); exact BK556.out)) : gb556 ≠ gb579)); have n11_ := Am ((by rw [hg]; exact Nat.ne_of_gt (blk_lt (g := gb556) (o := .cells #[.int .i64 a0_0, .int .i64 a0_1, .int .i64 a0_2, .string a0_3] 23 (0, 0)) (by (with_reducible repeat (first | refine bn ?_ _ | refine bd ?_ | refine ba ?_ _)); exact BK556.out)) : gb579 ≠ gb556)); have n12_ := Am ((by rw [hg]; exact Nat.ne_of_lt (blk_lt (g := gb557) (o := .cells #[.int .i64 a0_4, .int .i64 a0_5, .int .i64 a0_6, .string a0_7] 23 (0, 0)) (by (with_reducible repeat (first | refine bn ?_ _ | refine bd ?_ | refine ba ?_ _)); exact BK557.out)) : gb557 ≠ gb579)); have n13_ := Am ((by rw [hg]; exact Nat.ne_of_gt (blk_lt (g := gb557) (o := .cells #[.int .i64 a0_4, .int .i64 a0_5, .int .i64 a0_6, .string a0_7] 23 (0, 0)) (by (with_reducible repeat (first | refine bn ?_ _ | refine bd ?_ | refine ba ?_ _)); exact BK557.out)) : gb579 ≠ gb557)); have n14_ := Am ((by rw [hg]; exact Nat.ne_of_lt (blk_lt (g := gb566) (o := .cells #[.int .i64 t560, .int .i64 t561, .int .i64 t562, .string t563] 23 (0, 0)) (by (with_reducible repeat (first | refine bn ?_ _ | refine bd ?_ | refine ba ?_ _)); exact BK566.out)) : gb566 ≠ gb579)); have n15_ := Am ((by rw [hg]; exact Nat.ne_of_gt (blk_lt (g := gb566) (o := .cells #[.int .i64 t560, .int .i64 t561, .int .i64 t562, .string t563] 23 (0, 0)) (by (with_reducible repeat (first | refine bn ?_ _ | refine bd ?_ | refine ba ?_ _)); exact BK566.out)) : gb579 ≠ gb566)); clear BK555; clear BK556; clear BK557; clear BK566; clear HB; have BK555 := n0_; have BK556 := n1_; have BK557 := n2_; have BK566 := n3_; have HB := n4_; have BK579 := n5_; have GW579 := n6_; have GE579 := n7_; have NB555_579 := n8_; have NB579_555 := n9_; have NB556_579 := n10_; have NB579_556 := n11_; have NB557_579 := n12_; have NB579_557 := n13_; have NB566_579 := n14_; have NB579_566 := n15_; clear n0_ n1_ n2_ n3_ n4_ n5_ n6_ n7_ n8_ n9_ n10_ n11_ n12_ n13_ n14_ n15_; clear hb hbox hg; have hnb109 := NB579_555.out; have hnc109 := NB555_579.out; have hnb110 := NB579_556.out; have hnc110 := NB556_579.out; have hnb111 := NB579_557.out; have hnc111 := NB557_579.out; have hnb112 := NB579_566.out; have hnc112 := NB566_579.out; have hcz113_0 : w108.cell? ⟨gb579, 0, none⟩ = some (.int .i64 0) := (bc BK579.out 0).trans rfl; have hcz113_1 : w108.cell? ⟨gb579, 1, none⟩ = some (.int .i64 0) := (bc BK579.out 1).trans rfl; have hcz113_2 : w108.cell? ⟨gb579, 2, none⟩ = some (.int .i64 0) := (bc BK579.out 2).trans rfl; have hcz113_3 : w108.cell? ⟨gb579, 3, none⟩ = some (.string (⟨#[]⟩ : ByteArray)) := (bc BK579.out 3).trans rfl; have hfz113_0 := bf BK579.out 0; have hfz113_1 := bf BK579.out 1; have hfz113_2 := bf BK579.out 2; have hfz113_3 := bf BK579.out 3; have hcz114_0 : w108.cell? ⟨gb557, 0, none⟩ = some (.int .i64 a0_4) := (bc BK557.out 0).trans rfl; have hcz114_1 : w108.cell? ⟨gb557, 1, none⟩ = some (.int .i64 a0_5) := (bc BK557.out 1).trans rfl; have hcz114_2 : w108.cell? ⟨gb557, 2, none⟩ = some (.int .i64 a0_6) := (bc BK557.out 2).trans rfl; have hcz114_3 : w108.cell? ⟨gb557, 3, none⟩ = some (.string a0_7) := (bc BK557.out 3).trans rfl; have hfz114_0 := bf BK557.out 0; have hfz114_1 := bf BK557.out 1; have hfz114_2 := bf BK557.out 2; have hfz114_3 := bf BK557.out 3) | ((with_reducible refine gate_callee (f := 15) rfl ?_); refine goesL_ (some 98) rfl rfl Try.func15 (by kernel_rfl) rfl #[.agg #[.int .i64 a0_4, .int .i64 a0_5, .int .i64 a0_6, .string a0_7]] rfl (by (try simp only [List.map_toArray, List.map_cons, List.map_nil]); first | done | rfl | (simp only [List.length_drop, List.length_take]; rfl)) ?_; (with_reducible refine (batch_Encode.calls kj70 a0_4 a0_5 a0_6 a0_7 t580 _ A94.out).mono ?_); rintro e w115 ⟨rfl, hb⟩; refine ⟨_, rfl, ?_⟩; have n0_ := Am (blk_below (g := gb555) (o := .cells #[.int .i64 a0_0, .int .i64 a0_1, .int .i64 a0_2, .string a0_3, .int .i64 a0_4, .int .i64 a0_5, .int .i64 a0_6, .string a0_7] 37 (0, 0)) (by (with_reducible repeat (first | refine bn ?_ _ | refine bd ?_ | refine ba ?_ _)); refine blk_far ?_ NB555_579.out _; (with_reducible repeat (first | refine bn ?_ _ | refine bd ?_ | refine ba ?_ _)); refine blk_far ?_ NB555_579.out _; (with_reducible repeat (first | refine bn ?_ _ | refine bd ?_ | refine ba ?_ _)); refine blk_far ?_ NB555_579.out _; (with_reducible repeat (first | refine bn ?_ _ | refine bd ?_ | refine ba ?_ _)); refine blk_far ?_ NB555_579.out _; (with_reducible repeat (first | refine bn ?_ _ | refine bd ?_ | refine ba ?_ _)); exact BK555.out) hb); have n1_ := Am (blk_below (g := gb556) (o := .cells #[.int .i64 a0_0, .int .i64 a0_1, .int .i64 a0_2, .string a0_3] 23 (0, 0)) (by (with_reducible repeat (first | refine bn ?_ _ | refine bd ?_ | refine ba ?_ _)); refine blk_far ?_ NB556_579.out _; (with_reducible repeat (first | refine bn ?_ _ | refine bd ?_ | refine ba ?_ _)); refine blk_far ?_ NB556_579.out _; (with_reducible repeat (first | refine bn ?_ _ | refine bd ?_ | refine ba ?_ _)); refine blk_far ?_ NB556_579.out _; (with_reducible repeat (first | refine bn ?_ _ | refine bd ?_ | refine ba ?_ _)); refine blk_far ?_ NB556_579.out _; (with_reducible repeat (first | refine bn ?_ _ | refine bd ?_ | refine ba ?_ _)); exact BK556.out) hb); have n2_ := Am (blk_below (g := gb557) (o := .cells #[.int .i64 a0_4, .int .i64 a0_5, .int .i64 a0_6, .string a0_7] 23 (0, 0)) (by (with_reducible repeat (first | refine bn ?_ _ | refine bd ?_ | refine ba ?_ _)); refine blk_far ?_ NB557_579.out _; (with_reducible repeat (first | refine bn ?_ _ | refine bd ?_ | refine ba ?_ _)); refine blk_far ?_ NB557_579.out _; (with_reducible repeat (first | refine bn ?_ _ | refine bd ?_ | refine ba ?_ _)); refine blk_far ?_ NB557_579.out _; (with_reducible repeat (first | refine bn ?_ _ | refine bd ?_ | refine ba ?_ _)); refine blk_far ?_ NB557_579.out _; (with_reducible repeat (first | refine bn ?_ _ | refine bd ?_ | refine ba ?_ _)); exact BK557.out) hb); have n3_ := Am (blk_below (g := gb566) (o := .cells #[.int .i64 t560, .int .i64 t561, .int .i64 t562, .string t563] 23 (0, 0)) (by (with_reducible repeat (first | refine bn ?_ _ | refine bd ?_ | refine ba ?_ _)); refine blk_far ?_ NB566_579.out _; (with_reducible repeat (first | refine bn ?_ _ | refine bd ?_ | refine ba ?_ _)); refine blk_far ?_ NB566_579.out _; (with_reducible repeat (first | refine bn ?_ _ | refine bd ?_ | refine ba ?_ _)); refine blk_far ?_ NB566_579.out _; (with_reducible repeat (first | refine bn ?_ _ | refine bd ?_ | refine ba ?_ _)); refine blk_far ?_ NB566_579.out _; (with_reducible repeat (first | refine bn ?_ _ | refine bd ?_ | refine ba ?_ _)); exact BK566.out) hb); have n4_ := Am (blk_below (g := gb579) (o := .cells #[.int .i64 t573, .int .i64 t574, .int .i64 t575, .string t576] 23 (0, 0)) (by (with_reducible repeat (first | refine bn ?_ _ | refine bd ?_ | refine ba ?_ _)); refine blk_put (cs := #[.int .i64 t573, .int .i64 t574, .int .i64 t575, .string (⟨#[]⟩ : ByteArray)]) ?_ 3 _ rfl; (with_reducible repeat (first | refine bn ?_ _ | refine bd ?_ | refine ba ?_ _)); refine blk_put (cs := #[.int .i64 t573, .int .i64 t574, .int .i64 0, .string (⟨#[]⟩ : ByteArray)]) ?_ 2 _ rfl; (with_reducible repeat (first | refine bn ?_ _ | refine bd ?_ | refine ba ?_ _)); refine blk_put (cs := #[.int .i64 t573, .int .i64 0, .int .i64 0, .string (⟨#[]⟩ : ByteArray)]) ?_ 1 _ rfl; (with_reducible repeat (first | refine bn ?_ _ | refine bd ?_ | refine ba ?_ _)); refine blk_put (cs := #[.int .i64 0, .int .i64 0, .int .i64 0, .string (⟨#[]⟩ : ByteArray)]) ?_ 0 _ rfl; (with_reducible repeat (first | refine bn ?_ _ | refine bd ?_ | refine ba ?_ _)); exact BK579.out) hb); have n5_ := Am (below_step (by repeat (first | (with_reducible first | exact HB.out | apply bl | apply pN | apply b1 | refine bs ?_ GE555.out | refine bs ?_ GE556.out | refine bs ?_ GE557.out | refine bs ?_ GE566.out | refine bs ?_ GE579.out) | exact HB.out | exact HBo.out)) hb); clear BK555; clear BK556; clear BK557; clear BK566; clear BK579; clear HB; have BK555 := n0_; have BK556 := n1_; have BK557 := n2_; have BK566 := n3_; have BK579 := n4_; have HB := n5_; clear n0_ n1_ n2_ n3_ n4_ n5_; (try clear hb); (try clear hb2); (try clear hk); (try clear hi)) | ((with_reducible refine gate_callee (f := 9) rfl ?_); refine goesL_ (some 101) rfl rfl Try.func9 (by kernel_rfl) rfl #[.string (t571 ++ t580), .int .i64 t577] rfl (by (try simp only [List.map_toArray, List.map_cons, List.map_nil]); first | done | rfl | (simp only [List.length_drop, List.length_take]; rfl)) ?_; (with_reducible refine (batch_Decode.calls kj70 (t571 ++ t580) t577 t581 t582 t583 t584 t585 t586 _ A96.out).mono ?_); rintro e w116 ⟨rfl, hb⟩; refine ⟨_, rfl, ?_⟩; have n0_ := Am (blk_below (g := gb555) (o := .cells #[.int .i64 a0_0, .int .i64 a0_1, .int .i64 a0_2, .string a0_3, .int .i64 a0_4, .int .i64 a0_5, .int .i64 a0_6, .string a0_7] 37 (0, 0)) (by (with_reducible repeat (first | refine bn ?_ _ | refine bd ?_ | refine ba ?_ _)); exact BK555.out) hb); have n1_ := Am (blk_below (g := gb556) (o := .cells #[.int .i64 a0_0, .int .i64 a0_1, .int .i64 a0_2, .string a0_3] 23 (0, 0)) (by (with_reducible repeat (first | refine bn ?_ _ | refine bd ?_ | refine ba ?_ _)); exact BK556.out) hb); have n2_ := Am (blk_below (g := gb557) (o := .cells #[.int .i64 a0_4, .int .i64 a0_5, .int .i64 a0_6, .string a0_7] 23 (0, 0)) (by (with_reducible repeat (first | refine bn ?_ _ | refine bd ?_ | refine ba ?_ _)); exact BK557.out) hb); have n3_ := Am (blk_below (g := gb566) (o := .cells #[.int .i64 t560, .int .i64 t561, .int .i64 t562, .string t563] 23 (0, 0)) (by (with_reducible repeat (first | refine bn ?_ _ | refine bd ?_ | refine ba ?_ _)); exact BK566.out) hb); have n4_ := Am (blk_below (g := gb579) (o := .cells #[.int .i64 t573, .int .i64 t574, .int .i64 t575, .string t576] 23 (0, 0)) (by (with_reducible repeat (first | refine bn ?_ _ | refine bd ?_ | refine ba ?_ _)); exact BK579.out) hb); have n5_ := Am (below_step (by repeat (first | (with_reducible first | exact HB.out | apply bl | apply pN | apply b1 | refine bs ?_ GE555.out | refine bs ?_ GE556.out | refine bs ?_ GE557.out | refine bs ?_ GE566.out | refine bs ?_ GE579.out) | exact HB.out | exact HBo.out)) hb); clear BK555; clear BK556; clear BK557; clear BK566; clear BK579; clear HB; have BK555 := n0_; have BK556 := n1_; have BK557 := n2_; have BK566 := n3_; have BK579 := n4_; have HB := n5_; clear n0_ n1_ n2_ n3_ n4_ n5_; (try clear hb); (try clear hb2); (try clear hk); (try clear hi)) | ((with_reducible refine gate_dst (N := 16) rfl ?_); (try (refine gate_guard (by rfl) ?_; dsimp only)); refine box_event ?hg (N := 16) ?hd (cs := #[.int .i64 0, .int .i64 0, .int .i64 0, .string (⟨#[]⟩ : ByteArray)]) (t := 23) ?hr ?_; (case hd => rfl); (case hg => rfl); (case hr => first | (go_simp; done) | (go_simp; rfl)); intro gb587 hg w117 hbox hb; have n0_ := Am (blk_below (g := gb555) (o := .cells #[.int .i64 a0_0, .int .i64 a0_1, .int .i64 a0_2, .string a0_3, .int .i64 a0_4, .int .i64 a0_5, .int .i64 a0_6, .string a0_7] 37 (0, 0)) (by (with_reducible repeat (first | refine bn ?_ _ | refine bd ?_ | refine ba ?_ _)); exact BK555.out) hb); have n1_ := Am (blk_below (g := gb556) (o := .cells #[.int .i64 a0_0, .int .i64 a0_1, .int .i64 a0_2, .string a0_3] 23 (0, 0)) (by (with_reducible repeat (first | refine bn ?_ _ | refine bd ?_ | refine ba ?_ _)); exact BK556.out) hb); have n2_ := Am (blk_below (g := gb557) (o := .cells #[.int .i64 a0_4, .int .i64 a0_5, .int .i64 a0_6, .string a0_7] 23 (0, 0)) (by (with_reducible repeat (first | refine bn ?_ _ | refine bd ?_ | refine ba ?_ _)); exact BK557.out) hb); have n3_ := Am (blk_below (g := gb566) (o := .cells #[.int .i64 t560, .int .i64 t561, .int .i64 t562, .string t563] 23 (0, 0)) (by (with_reducible repeat (first | refine bn ?_ _ | refine bd ?_ | refine ba ?_ _)); exact BK566.out) hb); have n4_ := Am (blk_below (g := gb579) (o := .cells #[.int .i64 t573, .int .i64 t574, .int .i64 t575, .string t576] 23 (0, 0)) (by (with_reducible repeat (first | refine bn ?_ _ | refine bd ?_ | refine ba ?_ _)); exact BK579.out) hb); have n5_ := Am (below_step (by repeat (first | (with_reducible first | exact HB.out | apply bl | apply pN | apply b1 | refine bs ?_ GE555.out | refine bs ?_ GE556.out | refine bs ?_ GE557.out | refine bs ?_ GE566.out | refine bs ?_ GE579.out) | exact HB.out | exact HBo.out)) hb); have n6_ := Am (hbox); have n7_ := Am ((by rw [hg]; exact (below_size (by repeat (first | (with_reducible first | exact HB.out | apply bl | apply pN | apply b1 | refine bs ?_ GE555.out | refine bs ?_ GE556.out | refine bs ?_ GE557.out | refine bs ?_ GE566.out | refine bs ?_ GE579.out) | exact HB.out | exact HBo.out))) : w.heap.size ≤ gb587)); have n8_ := Am ((by rw [hg]; exact (below_size (by repeat (first | (with_reducible first | exact HB.out | apply bl | apply pN | apply b1 | refine bs ?_ GE555.out | refine bs ?_ GE556.out | refine bs ?_ GE557.out | refine bs ?_ GE566.out | refine bs ?_ GE579.out) | exact HB.out | exact HBo.out))) : w.heap.size ≤ gb587)); have n9_ := Am ((by rw [hg]; exact Nat.ne_of_lt (blk_lt (g := gb555) (o := .cells #[.int .i64 a0_0, .int .i64 a0_1, .int .i64 a0_2, .string a0_3, .int .i64 a0_4, .int .i64 a0_5, .int .i64 a0_6, .string a0_7] 37 (0, 0)) (by (with_reducible repeat (first | refine bn ?_ _ | refine bd ?_ | refine ba ?_ _)); exact BK555.out)) : gb555 ≠ gb587)); have n10_ := Am ((by rw [hg]; exact Nat.ne_of_gt (blk_lt (g := gb555) (o := .cells #[.int .i64 a0_0, .int .i64 a0_1, .int .i64 a0_2, .string a0_3, .int .i64 a0_4, .int .i64 a0_5, .int .i64 a0_6, .string a0_7] 37 (0, 0)) (by (with_reducible repeat (first | refine bn ?_ _ | refine bd ?_ | refine ba ?_ _)); exact BK555.out)) : gb587 ≠ gb555)); have n11_ := Am ((by rw [hg]; exact Nat.ne_of_lt (blk_lt (g := gb556) (o := .cells #[.int .i64 a0_0, .int .i64 a0_1, .int .i64 a0_2, .string a0_3] 23 (0, 0)) (by (with_reducible repeat (first | refine bn ?_ _ | refine bd ?_ | refine ba ?_ _)); exact BK556.out)) : gb556 ≠ gb587)); have n12_ := Am ((by rw [hg]; exact Nat.ne_of_gt (blk_lt (g := gb556) (o := .cells #[.int .i64 a0_0, .int .i64 a0_1, .int .i64 a0_2, .string a0_3] 23 (0, 0)) (by (with_reducible repeat (first | refine bn ?_ _ | refine bd ?_ | refine ba ?_ _)); exact BK556.out)) : gb587 ≠ gb556)); have n13_ := Am ((by rw [hg]; exact Nat.ne_of_lt (blk_lt (g := gb557) (o := .cells #[.int .i64 a0_4, .int .i64 a0_5, .int .i64 a0_6, .string a0_7] 23 (0, 0)) (by (with_reducible repeat (first | refine bn ?_ _ | refine bd ?_ | refine ba ?_ _)); exact BK557.out)) : gb557 ≠ gb587)); have n14_ := Am ((by rw [hg]; exact Nat.ne_of_gt (blk_lt (g := gb557) (o := .cells #[.int .i64 a0_4, .int .i64 a0_5, .int .i64 a0_6, .string a0_7] 23 (0, 0)) (by (with_reducible repeat (first | refine bn ?_ _ | refine bd ?_ | refine ba ?_ _)); exact BK557.out)) : gb587 ≠ gb557)); have n15_ := Am ((by rw [hg]; exact Nat.ne_of_lt (blk_lt (g := gb566) (o := .cells #[.int .i64 t560, .int .i64 t561, .int .i64 t562, .string t563] 23 (0, 0)) (by (with_reducible repeat (first | refine bn ?_ _ | refine bd ?_ | refine ba ?_ _)); exact BK566.out)) : gb566 ≠ gb587)); have n16_ := Am ((by rw [hg]; exact Nat.ne_of_gt (blk_lt (g := gb566) (o := .cells #[.int .i64 t560, .int .i64 t561, .int .i64 t562, .string t563] 23 (0, 0)) (by (with_reducible repeat (first | refine bn ?_ _ | refine bd ?_ | refine ba ?_ _)); exact BK566.out)) : gb587 ≠ gb566)); have n17_ := Am ((by rw [hg]; exact Nat.ne_of_lt (blk_lt (g := gb579) (o := .cells #[.int .i64 t573, .int .i64 t574, .int .i64 t575, .string t576] 23 (0, 0)) (by (with_reducible repeat (first | refine bn ?_ _ | refine bd ?_ | refine ba ?_ _)); exact BK579.out)) : gb579 ≠ gb587)); have n18_ := Am ((by rw [hg]; exact Nat.ne_of_gt (blk_lt (g := gb579) (o := .cells #[.int .i64 t573, .int .i64 t574, .int .i64 t575, .string t576] 23 (0, 0)) (by (with_reducible repeat (first | refine bn ?_ _ | refine bd ?_ | refine ba ?_ _)); exact BK579.out)) : gb587 ≠ gb579)); clear BK555; clear BK556; clear BK557; clear BK566; clear BK579; clear HB; have BK555 := n0_; have BK556 := n1_; have BK557 := n2_; have BK566 := n3_; have BK579 := n4_; have HB := n5_; have BK587 := n6_; have GW587 := n7_; have GE587 := n8_; have NB555_587 := n9_; have NB587_555 := n10_; have NB556_587 := n11_; have NB587_556 := n12_; have NB557_587 := n13_; have NB587_557 := n14_; have NB566_587 := n15_; have NB587_566 := n16_; have NB579_587 := n17_; have NB587_579 := n18_; clear n0_ n1_ n2_ n3_ n4_ n5_ n6_ n7_ n8_ n9_ n10_ n11_ n12_ n13_ n14_ n15_ n16_ n17_ n18_; clear hb hbox hg; have hnb118 := NB587_555.out; have hnc118 := NB555_587.out; have hnb119 := NB587_556.out; have hnc119 := NB556_587.out; have hnb120 := NB587_557.out; have hnc120 := NB557_587.out; have hnb121 := NB587_566.out; have hnc121 := NB566_587.out; have hnb122 := NB587_579.out; have hnc122 := NB579_587.out; have hcz123_0 : w117.cell? ⟨gb587, 0, none⟩ = some (.int .i64 0) := (bc BK587.out 0).trans rfl; have hcz123_1 : w117.cell? ⟨gb587, 1, none⟩ = some (.int .i64 0) := (bc BK587.out 1).trans rfl; have hcz123_2 : w117.cell? ⟨gb587, 2, none⟩ = some (.int .i64 0) := (bc BK587.out 2).trans rfl; have hcz123_3 : w117.cell? ⟨gb587, 3, none⟩ = some (.string (⟨#[]⟩ : ByteArray)) := (bc BK587.out 3).trans rfl; have hfz123_0 := bf BK587.out 0; have hfz123_1 := bf BK587.out 1; have hfz123_2 := bf BK587.out 2; have hfz123_3 := bf BK587.out 3))
            (try simp only [Act.put, sI, sZ, sS])
            go_cut [135] (fun v135 wc => ∃ (kq : Nat) (x135_96 : Bool), v135 = .bool x135_96 ∧ Aside0 (shuttlecocklaw05_BatchBack.j3 kq a2 t571 x135_96 = some r) ∧ Aside0 (kq ≤ kj70) ∧ Aside0 (wc.heap[gb555]? = some (.cells #[.int .i64 a0_0, .int .i64 a0_1, .int .i64 a0_2, .string a0_3, .int .i64 a0_4, .int .i64 a0_5, .int .i64 a0_6, .string a0_7] 37 (0, 0))) ∧ Aside0 (wc.heap[gb556]? = some (.cells #[.int .i64 a0_0, .int .i64 a0_1, .int .i64 a0_2, .string a0_3] 23 (0, 0))) ∧ Aside0 (wc.heap[gb557]? = some (.cells #[.int .i64 a0_4, .int .i64 a0_5, .int .i64 a0_6, .string a0_7] 23 (0, 0))) ∧ Aside0 (wc.heap[gb566]? = some (.cells #[.int .i64 t560, .int .i64 t561, .int .i64 t562, .string t563] 23 (0, 0))) ∧ Aside0 (wc.heap[gb579]? = some (.cells #[.int .i64 t573, .int .i64 t574, .int .i64 t575, .string t576] 23 (0, 0))) ∧ Aside0 (wc.heap[gb587]? = some (.cells #[.int .i64 t581, .int .i64 t582, .int .i64 t583, .string t584] 23 (0, 0))) ∧ Aside0 (Below w.heap.size w wc))
            case first =>
             have H := HC97.out
             clear HC97
             by_cases c124 : t578 = 0
             ·
              rw [if_pos c124] at H
              have c124b0 : (t578 == 0) = true := beq_iff_eq.mpr c124
              have c124b1 : (t578 != 0) = false := bne_eq_false_iff_eq.mpr c124
              clear c124
              (first | rw [c124b0] | (simp only [i64_w, i32_w]; rw [c124b0]) | skip)
              by_cases c125 : t586 = 0
              ·
               rw [if_pos c125] at H
               have c125b0 : (t586 == 0) = true := beq_iff_eq.mpr c125
               have c125b1 : (t586 != 0) = false := bne_eq_false_iff_eq.mpr c125
               clear c125
               by_cases c126 : (!(t573 == a0_0) || (!(t574 == a0_1) || (!(t575 == a0_2) || (!(t576.toList == a0_3.toList))))) = true
               ·
                rw [if_pos c126] at H
                have c126b0 : (!(t573 == a0_0) || (!(t574 == a0_1) || (!(t575 == a0_2) || (!(t576.toList == a0_3.toList))))) = true := c126
                try have c126b6 : (¬ t573 = a0_0 ∨ ¬ t574 = a0_1 ∨ ¬ t575 = a0_2 ∨ ¬ t576.toList = a0_3.toList) = True := eq_true (by first | (simpa using c126) | exact Classical.byContradiction (fun hh_ => by simp only [not_or, Classical.not_not] at hh_; simp [hh_] at c126))
                try have c126b7 : (t573 = a0_0 ∧ t574 = a0_1 ∧ t575 = a0_2 ∧ t576.toList = a0_3.toList) = False := eq_false (by first | (intro hh_; simp [hh_] at c126; done) | simpa using c126)
                clear c126
                have H' := Am H
                clear H
                have hnb127 := NB579_555.out
                have hnc127 := NB555_579.out
                have hnb128 := NB579_556.out
                have hnc128 := NB556_579.out
                have hnb129 := NB579_557.out
                have hnc129 := NB557_579.out
                have hnb130 := NB579_566.out
                have hnc130 := NB566_579.out
                have hnb131 := NB579_587.out
                have hnc131 := NB587_579.out
                have hcz132_0 : w117.cell? ⟨gb579, 0, none⟩ = some (.int .i64 t573) := (bc BK579.out 0).trans rfl
                have hcz132_1 : w117.cell? ⟨gb579, 1, none⟩ = some (.int .i64 t574) := (bc BK579.out 1).trans rfl
                have hcz132_2 : w117.cell? ⟨gb579, 2, none⟩ = some (.int .i64 t575) := (bc BK579.out 2).trans rfl
                have hcz132_3 : w117.cell? ⟨gb579, 3, none⟩ = some (.string t576) := (bc BK579.out 3).trans rfl
                have hfz132_0 := bf BK579.out 0
                have hfz132_1 := bf BK579.out 1
                have hfz132_2 := bf BK579.out 2
                have hfz132_3 := bf BK579.out 3
                have hnb133 := NB556_555.out
                have hnc133 := NB555_556.out
                have hnb134 := NB556_557.out
                have hnc134 := NB557_556.out
                have hnb135 := NB556_566.out
                have hnc135 := NB566_556.out
                have hnb136 := NB556_587.out
                have hnc136 := NB587_556.out
                have hcz137_0 : w117.cell? ⟨gb556, 0, none⟩ = some (.int .i64 a0_0) := (bc BK556.out 0).trans rfl
                have hcz137_1 : w117.cell? ⟨gb556, 1, none⟩ = some (.int .i64 a0_1) := (bc BK556.out 1).trans rfl
                have hcz137_2 : w117.cell? ⟨gb556, 2, none⟩ = some (.int .i64 a0_2) := (bc BK556.out 2).trans rfl
                have hcz137_3 : w117.cell? ⟨gb556, 3, none⟩ = some (.string a0_3) := (bc BK556.out 3).trans rfl
                have hfz137_0 := bf BK556.out 0
                have hfz137_1 := bf BK556.out 1
                have hfz137_2 := bf BK556.out 2
                have hfz137_3 := bf BK556.out 3
                go_wp2
                go_meet
                case rel => exact ⟨_, (true), (by first | rfl | (simp; done) | (simp [*]; done)), H', ⟨by have := HJ3.out; have := HJ42.out; have := HJ70.out; first | omega | exact Nat.le_refl _⟩, ⟨by (with_reducible repeat (first | refine bn ?_ _ | refine bd ?_ | refine ba ?_ _)); refine blk_far ?_ NB555_587.out _; (with_reducible repeat (first | refine bn ?_ _ | refine bd ?_ | refine ba ?_ _)); refine blk_far ?_ NB555_587.out _; (with_reducible repeat (first | refine bn ?_ _ | refine bd ?_ | refine ba ?_ _)); refine blk_far ?_ NB555_587.out _; (with_reducible repeat (first | refine bn ?_ _ | refine bd ?_ | refine ba ?_ _)); refine blk_far ?_ NB555_587.out _; (with_reducible repeat (first | refine bn ?_ _ | refine bd ?_ | refine ba ?_ _)); exact BK555.out⟩, ⟨by (with_reducible repeat (first | refine bn ?_ _ | refine bd ?_ | refine ba ?_ _)); refine blk_far ?_ NB556_587.out _; (with_reducible repeat (first | refine bn ?_ _ | refine bd ?_ | refine ba ?_ _)); refine blk_far ?_ NB556_587.out _; (with_reducible repeat (first | refine bn ?_ _ | refine bd ?_ | refine ba ?_ _)); refine blk_far ?_ NB556_587.out _; (with_reducible repeat (first | refine bn ?_ _ | refine bd ?_ | refine ba ?_ _)); refine blk_far ?_ NB556_587.out _; (with_reducible repeat (first | refine bn ?_ _ | refine bd ?_ | refine ba ?_ _)); exact BK556.out⟩, ⟨by (with_reducible repeat (first | refine bn ?_ _ | refine bd ?_ | refine ba ?_ _)); refine blk_far ?_ NB557_587.out _; (with_reducible repeat (first | refine bn ?_ _ | refine bd ?_ | refine ba ?_ _)); refine blk_far ?_ NB557_587.out _; (with_reducible repeat (first | refine bn ?_ _ | refine bd ?_ | refine ba ?_ _)); refine blk_far ?_ NB557_587.out _; (with_reducible repeat (first | refine bn ?_ _ | refine bd ?_ | refine ba ?_ _)); refine blk_far ?_ NB557_587.out _; (with_reducible repeat (first | refine bn ?_ _ | refine bd ?_ | refine ba ?_ _)); exact BK557.out⟩, ⟨by (with_reducible repeat (first | refine bn ?_ _ | refine bd ?_ | refine ba ?_ _)); refine blk_far ?_ NB566_587.out _; (with_reducible repeat (first | refine bn ?_ _ | refine bd ?_ | refine ba ?_ _)); refine blk_far ?_ NB566_587.out _; (with_reducible repeat (first | refine bn ?_ _ | refine bd ?_ | refine ba ?_ _)); refine blk_far ?_ NB566_587.out _; (with_reducible repeat (first | refine bn ?_ _ | refine bd ?_ | refine ba ?_ _)); refine blk_far ?_ NB566_587.out _; (with_reducible repeat (first | refine bn ?_ _ | refine bd ?_ | refine ba ?_ _)); exact BK566.out⟩, ⟨by (with_reducible repeat (first | refine bn ?_ _ | refine bd ?_ | refine ba ?_ _)); refine blk_far ?_ NB579_587.out _; (with_reducible repeat (first | refine bn ?_ _ | refine bd ?_ | refine ba ?_ _)); refine blk_far ?_ NB579_587.out _; (with_reducible repeat (first | refine bn ?_ _ | refine bd ?_ | refine ba ?_ _)); refine blk_far ?_ NB579_587.out _; (with_reducible repeat (first | refine bn ?_ _ | refine bd ?_ | refine ba ?_ _)); refine blk_far ?_ NB579_587.out _; (with_reducible repeat (first | refine bn ?_ _ | refine bd ?_ | refine ba ?_ _)); exact BK579.out⟩, ⟨by (with_reducible repeat (first | refine bn ?_ _ | refine bd ?_ | refine ba ?_ _)); refine blk_put (cs := #[.int .i64 t581, .int .i64 t582, .int .i64 t583, .string (⟨#[]⟩ : ByteArray)]) ?_ 3 _ rfl; (with_reducible repeat (first | refine bn ?_ _ | refine bd ?_ | refine ba ?_ _)); refine blk_put (cs := #[.int .i64 t581, .int .i64 t582, .int .i64 0, .string (⟨#[]⟩ : ByteArray)]) ?_ 2 _ rfl; (with_reducible repeat (first | refine bn ?_ _ | refine bd ?_ | refine ba ?_ _)); refine blk_put (cs := #[.int .i64 t581, .int .i64 0, .int .i64 0, .string (⟨#[]⟩ : ByteArray)]) ?_ 1 _ rfl; (with_reducible repeat (first | refine bn ?_ _ | refine bd ?_ | refine ba ?_ _)); refine blk_put (cs := #[.int .i64 0, .int .i64 0, .int .i64 0, .string (⟨#[]⟩ : ByteArray)]) ?_ 0 _ rfl; (with_reducible repeat (first | refine bn ?_ _ | refine bd ?_ | refine ba ?_ _)); exact BK587.out⟩, ⟨by repeat (first | (with_reducible first | exact HB.out | apply bl | apply pN | apply b1 | refine bs ?_ GE555.out | refine bs ?_ GE556.out | refine bs ?_ GE557.out | refine bs ?_ GE566.out | refine bs ?_ GE579.out | refine bs ?_ GE587.out) | exact HB.out | exact HBo.out)⟩⟩
               ·
                rw [if_neg c126] at H
                have c126b0 : (!(t573 == a0_0) || (!(t574 == a0_1) || (!(t575 == a0_2) || (!(t576.toList == a0_3.toList))))) = false := by simpa using c126
                try have c126b6 : (¬ t573 = a0_0 ∨ ¬ t574 = a0_1 ∨ ¬ t575 = a0_2 ∨ ¬ t576.toList = a0_3.toList) = False := eq_false (by simpa using c126)
                try have c126b7 : (t573 = a0_0 ∧ t574 = a0_1 ∧ t575 = a0_2 ∧ t576.toList = a0_3.toList) = True := eq_true (by simpa using c126)
                clear c126
                by_cases c138 : (!(t581 == a0_4) || (!(t582 == a0_5) || (!(t583 == a0_6) || (!(t584.toList == a0_7.toList))))) = true
                ·
                 rw [if_pos c138] at H
                 have c138b0 : (!(t581 == a0_4) || (!(t582 == a0_5) || (!(t583 == a0_6) || (!(t584.toList == a0_7.toList))))) = true := c138
                 try have c138b6 : (¬ t581 = a0_4 ∨ ¬ t582 = a0_5 ∨ ¬ t583 = a0_6 ∨ ¬ t584.toList = a0_7.toList) = True := eq_true (by first | (simpa using c138) | exact Classical.byContradiction (fun hh_ => by simp only [not_or, Classical.not_not] at hh_; simp [hh_] at c138))
                 try have c138b7 : (t581 = a0_4 ∧ t582 = a0_5 ∧ t583 = a0_6 ∧ t584.toList = a0_7.toList) = False := eq_false (by first | (intro hh_; simp [hh_] at c138; done) | simpa using c138)
                 clear c138
                 have H' := Am H
                 clear H
                 have hnb139 := NB579_555.out
                 have hnc139 := NB555_579.out
                 have hnb140 := NB579_556.out
                 have hnc140 := NB556_579.out
                 have hnb141 := NB579_557.out
                 have hnc141 := NB557_579.out
                 have hnb142 := NB579_566.out
                 have hnc142 := NB566_579.out
                 have hnb143 := NB579_587.out
                 have hnc143 := NB587_579.out
                 have hcz144_0 : w117.cell? ⟨gb579, 0, none⟩ = some (.int .i64 t573) := (bc BK579.out 0).trans rfl
                 have hcz144_1 : w117.cell? ⟨gb579, 1, none⟩ = some (.int .i64 t574) := (bc BK579.out 1).trans rfl
                 have hcz144_2 : w117.cell? ⟨gb579, 2, none⟩ = some (.int .i64 t575) := (bc BK579.out 2).trans rfl
                 have hcz144_3 : w117.cell? ⟨gb579, 3, none⟩ = some (.string t576) := (bc BK579.out 3).trans rfl
                 have hfz144_0 := bf BK579.out 0
                 have hfz144_1 := bf BK579.out 1
                 have hfz144_2 := bf BK579.out 2
                 have hfz144_3 := bf BK579.out 3
                 have hnb145 := NB556_555.out
                 have hnc145 := NB555_556.out
                 have hnb146 := NB556_557.out
                 have hnc146 := NB557_556.out
                 have hnb147 := NB556_566.out
                 have hnc147 := NB566_556.out
                 have hnb148 := NB556_587.out
                 have hnc148 := NB587_556.out
                 have hcz149_0 : w117.cell? ⟨gb556, 0, none⟩ = some (.int .i64 a0_0) := (bc BK556.out 0).trans rfl
                 have hcz149_1 : w117.cell? ⟨gb556, 1, none⟩ = some (.int .i64 a0_1) := (bc BK556.out 1).trans rfl
                 have hcz149_2 : w117.cell? ⟨gb556, 2, none⟩ = some (.int .i64 a0_2) := (bc BK556.out 2).trans rfl
                 have hcz149_3 : w117.cell? ⟨gb556, 3, none⟩ = some (.string a0_3) := (bc BK556.out 3).trans rfl
                 have hfz149_0 := bf BK556.out 0
                 have hfz149_1 := bf BK556.out 1
                 have hfz149_2 := bf BK556.out 2
                 have hfz149_3 := bf BK556.out 3
                 have hnb150 := NB587_555.out
                 have hnc150 := NB555_587.out
                 have hnb151 := NB587_557.out
                 have hnc151 := NB557_587.out
                 have hnb152 := NB587_566.out
                 have hnc152 := NB566_587.out
                 have hcz153_0 : w117.cell? ⟨gb587, 0, none⟩ = some (.int .i64 0) := (bc BK587.out 0).trans rfl
                 have hcz153_1 : w117.cell? ⟨gb587, 1, none⟩ = some (.int .i64 0) := (bc BK587.out 1).trans rfl
                 have hcz153_2 : w117.cell? ⟨gb587, 2, none⟩ = some (.int .i64 0) := (bc BK587.out 2).trans rfl
                 have hcz153_3 : w117.cell? ⟨gb587, 3, none⟩ = some (.string (⟨#[]⟩ : ByteArray)) := (bc BK587.out 3).trans rfl
                 have hfz153_0 := bf BK587.out 0
                 have hfz153_1 := bf BK587.out 1
                 have hfz153_2 := bf BK587.out 2
                 have hfz153_3 := bf BK587.out 3
                 have hnb154 := NB557_555.out
                 have hnc154 := NB555_557.out
                 have hnb155 := NB557_566.out
                 have hnc155 := NB566_557.out
                 have hcz156_0 : w117.cell? ⟨gb557, 0, none⟩ = some (.int .i64 a0_4) := (bc BK557.out 0).trans rfl
                 have hcz156_1 : w117.cell? ⟨gb557, 1, none⟩ = some (.int .i64 a0_5) := (bc BK557.out 1).trans rfl
                 have hcz156_2 : w117.cell? ⟨gb557, 2, none⟩ = some (.int .i64 a0_6) := (bc BK557.out 2).trans rfl
                 have hcz156_3 : w117.cell? ⟨gb557, 3, none⟩ = some (.string a0_7) := (bc BK557.out 3).trans rfl
                 have hfz156_0 := bf BK557.out 0
                 have hfz156_1 := bf BK557.out 1
                 have hfz156_2 := bf BK557.out 2
                 have hfz156_3 := bf BK557.out 3
                 go_wp2
                 go_meet
                 case rel => exact ⟨_, (true), (by first | rfl | (simp; done) | (simp [*]; done)), H', ⟨by have := HJ3.out; have := HJ42.out; have := HJ70.out; first | omega | exact Nat.le_refl _⟩, ⟨by (with_reducible repeat (first | refine bn ?_ _ | refine bd ?_ | refine ba ?_ _)); refine blk_far ?_ NB555_587.out _; (with_reducible repeat (first | refine bn ?_ _ | refine bd ?_ | refine ba ?_ _)); refine blk_far ?_ NB555_587.out _; (with_reducible repeat (first | refine bn ?_ _ | refine bd ?_ | refine ba ?_ _)); refine blk_far ?_ NB555_587.out _; (with_reducible repeat (first | refine bn ?_ _ | refine bd ?_ | refine ba ?_ _)); refine blk_far ?_ NB555_587.out _; (with_reducible repeat (first | refine bn ?_ _ | refine bd ?_ | refine ba ?_ _)); exact BK555.out⟩, ⟨by (with_reducible repeat (first | refine bn ?_ _ | refine bd ?_ | refine ba ?_ _)); refine blk_far ?_ NB556_587.out _; (with_reducible repeat (first | refine bn ?_ _ | refine bd ?_ | refine ba ?_ _)); refine blk_far ?_ NB556_587.out _; (with_reducible repeat (first | refine bn ?_ _ | refine bd ?_ | refine ba ?_ _)); refine blk_far ?_ NB556_587.out _; (with_reducible repeat (first | refine bn ?_ _ | refine bd ?_ | refine ba ?_ _)); refine blk_far ?_ NB556_587.out _; (with_reducible repeat (first | refine bn ?_ _ | refine bd ?_ | refine ba ?_ _)); exact BK556.out⟩, ⟨by (with_reducible repeat (first | refine bn ?_ _ | refine bd ?_ | refine ba ?_ _)); refine blk_far ?_ NB557_587.out _; (with_reducible repeat (first | refine bn ?_ _ | refine bd ?_ | refine ba ?_ _)); refine blk_far ?_ NB557_587.out _; (with_reducible repeat (first | refine bn ?_ _ | refine bd ?_ | refine ba ?_ _)); refine blk_far ?_ NB557_587.out _; (with_reducible repeat (first | refine bn ?_ _ | refine bd ?_ | refine ba ?_ _)); refine blk_far ?_ NB557_587.out _; (with_reducible repeat (first | refine bn ?_ _ | refine bd ?_ | refine ba ?_ _)); exact BK557.out⟩, ⟨by (with_reducible repeat (first | refine bn ?_ _ | refine bd ?_ | refine ba ?_ _)); refine blk_far ?_ NB566_587.out _; (with_reducible repeat (first | refine bn ?_ _ | refine bd ?_ | refine ba ?_ _)); refine blk_far ?_ NB566_587.out _; (with_reducible repeat (first | refine bn ?_ _ | refine bd ?_ | refine ba ?_ _)); refine blk_far ?_ NB566_587.out _; (with_reducible repeat (first | refine bn ?_ _ | refine bd ?_ | refine ba ?_ _)); refine blk_far ?_ NB566_587.out _; (with_reducible repeat (first | refine bn ?_ _ | refine bd ?_ | refine ba ?_ _)); exact BK566.out⟩, ⟨by (with_reducible repeat (first | refine bn ?_ _ | refine bd ?_ | refine ba ?_ _)); refine blk_far ?_ NB579_587.out _; (with_reducible repeat (first | refine bn ?_ _ | refine bd ?_ | refine ba ?_ _)); refine blk_far ?_ NB579_587.out _; (with_reducible repeat (first | refine bn ?_ _ | refine bd ?_ | refine ba ?_ _)); refine blk_far ?_ NB579_587.out _; (with_reducible repeat (first | refine bn ?_ _ | refine bd ?_ | refine ba ?_ _)); refine blk_far ?_ NB579_587.out _; (with_reducible repeat (first | refine bn ?_ _ | refine bd ?_ | refine ba ?_ _)); exact BK579.out⟩, ⟨by (with_reducible repeat (first | refine bn ?_ _ | refine bd ?_ | refine ba ?_ _)); refine blk_put (cs := #[.int .i64 t581, .int .i64 t582, .int .i64 t583, .string (⟨#[]⟩ : ByteArray)]) ?_ 3 _ rfl; (with_reducible repeat (first | refine bn ?_ _ | refine bd ?_ | refine ba ?_ _)); refine blk_put (cs := #[.int .i64 t581, .int .i64 t582, .int .i64 0, .string (⟨#[]⟩ : ByteArray)]) ?_ 2 _ rfl; (with_reducible repeat (first | refine bn ?_ _ | refine bd ?_ | refine ba ?_ _)); refine blk_put (cs := #[.int .i64 t581, .int .i64 0, .int .i64 0, .string (⟨#[]⟩ : ByteArray)]) ?_ 1 _ rfl; (with_reducible repeat (first | refine bn ?_ _ | refine bd ?_ | refine ba ?_ _)); refine blk_put (cs := #[.int .i64 0, .int .i64 0, .int .i64 0, .string (⟨#[]⟩ : ByteArray)]) ?_ 0 _ rfl; (with_reducible repeat (first | refine bn ?_ _ | refine bd ?_ | refine ba ?_ _)); exact BK587.out⟩, ⟨by repeat (first | (with_reducible first | exact HB.out | apply bl | apply pN | apply b1 | refine bs ?_ GE555.out | refine bs ?_ GE556.out | refine bs ?_ GE557.out | refine bs ?_ GE566.out | refine bs ?_ GE579.out | refine bs ?_ GE587.out) | exact HB.out | exact HBo.out)⟩⟩
                ·
                 rw [if_neg c138] at H
                 have c138b0 : (!(t581 == a0_4) || (!(t582 == a0_5) || (!(t583 == a0_6) || (!(t584.toList == a0_7.toList))))) = false := by simpa using c138
                 try have c138b6 : (¬ t581 = a0_4 ∨ ¬ t582 = a0_5 ∨ ¬ t583 = a0_6 ∨ ¬ t584.toList = a0_7.toList) = False := eq_false (by simpa using c138)
                 try have c138b7 : (t581 = a0_4 ∧ t582 = a0_5 ∧ t583 = a0_6 ∧ t584.toList = a0_7.toList) = True := eq_true (by simpa using c138)
                 clear c138
                 by_cases c157 : t577 = (t571.size : Int)
                 ·
                  rw [if_pos c157] at H
                  have c157b0 : (t577 == (t571.size : Int)) = true := beq_iff_eq.mpr c157
                  have c157b1 : (t577 != (t571.size : Int)) = false := bne_eq_false_iff_eq.mpr c157
                  clear c157
                  replace H := ob H
                  obtain ⟨t588, A1580, H⟩ := H
                  replace H : (shuttlecocklaw05_BatchBack.j3 kj70 a2 t571 (t585 != (wrap64 (t577 + (t588.size : Int))))) = some r := H
                  have A158 := Am A1580
                  clear A1580
                  have H' := Am H
                  clear H
                  have hnb159 := NB579_555.out
                  have hnc159 := NB555_579.out
                  have hnb160 := NB579_556.out
                  have hnc160 := NB556_579.out
                  have hnb161 := NB579_557.out
                  have hnc161 := NB557_579.out
                  have hnb162 := NB579_566.out
                  have hnc162 := NB566_579.out
                  have hnb163 := NB579_587.out
                  have hnc163 := NB587_579.out
                  have hcz164_0 : w117.cell? ⟨gb579, 0, none⟩ = some (.int .i64 t573) := (bc BK579.out 0).trans rfl
                  have hcz164_1 : w117.cell? ⟨gb579, 1, none⟩ = some (.int .i64 t574) := (bc BK579.out 1).trans rfl
                  have hcz164_2 : w117.cell? ⟨gb579, 2, none⟩ = some (.int .i64 t575) := (bc BK579.out 2).trans rfl
                  have hcz164_3 : w117.cell? ⟨gb579, 3, none⟩ = some (.string t576) := (bc BK579.out 3).trans rfl
                  have hfz164_0 := bf BK579.out 0
                  have hfz164_1 := bf BK579.out 1
                  have hfz164_2 := bf BK579.out 2
                  have hfz164_3 := bf BK579.out 3
                  have hnb165 := NB556_555.out
                  have hnc165 := NB555_556.out
                  have hnb166 := NB556_557.out
                  have hnc166 := NB557_556.out
                  have hnb167 := NB556_566.out
                  have hnc167 := NB566_556.out
                  have hnb168 := NB556_587.out
                  have hnc168 := NB587_556.out
                  have hcz169_0 : w117.cell? ⟨gb556, 0, none⟩ = some (.int .i64 a0_0) := (bc BK556.out 0).trans rfl
                  have hcz169_1 : w117.cell? ⟨gb556, 1, none⟩ = some (.int .i64 a0_1) := (bc BK556.out 1).trans rfl
                  have hcz169_2 : w117.cell? ⟨gb556, 2, none⟩ = some (.int .i64 a0_2) := (bc BK556.out 2).trans rfl
                  have hcz169_3 : w117.cell? ⟨gb556, 3, none⟩ = some (.string a0_3) := (bc BK556.out 3).trans rfl
                  have hfz169_0 := bf BK556.out 0
                  have hfz169_1 := bf BK556.out 1
                  have hfz169_2 := bf BK556.out 2
                  have hfz169_3 := bf BK556.out 3
                  have hnb170 := NB587_555.out
                  have hnc170 := NB555_587.out
                  have hnb171 := NB587_557.out
                  have hnc171 := NB557_587.out
                  have hnb172 := NB587_566.out
                  have hnc172 := NB566_587.out
                  have hcz173_0 : w117.cell? ⟨gb587, 0, none⟩ = some (.int .i64 0) := (bc BK587.out 0).trans rfl
                  have hcz173_1 : w117.cell? ⟨gb587, 1, none⟩ = some (.int .i64 0) := (bc BK587.out 1).trans rfl
                  have hcz173_2 : w117.cell? ⟨gb587, 2, none⟩ = some (.int .i64 0) := (bc BK587.out 2).trans rfl
                  have hcz173_3 : w117.cell? ⟨gb587, 3, none⟩ = some (.string (⟨#[]⟩ : ByteArray)) := (bc BK587.out 3).trans rfl
                  have hfz173_0 := bf BK587.out 0
                  have hfz173_1 := bf BK587.out 1
                  have hfz173_2 := bf BK587.out 2
                  have hfz173_3 := bf BK587.out 3
                  have hnb174 := NB557_555.out
                  have hnc174 := NB555_557.out
                  have hnb175 := NB557_566.out
                  have hnc175 := NB566_557.out
                  have hcz176_0 : w117.cell? ⟨gb557, 0, none⟩ = some (.int .i64 a0_4) := (bc BK557.out 0).trans rfl
                  have hcz176_1 : w117.cell? ⟨gb557, 1, none⟩ = some (.int .i64 a0_5) := (bc BK557.out 1).trans rfl
                  have hcz176_2 : w117.cell? ⟨gb557, 2, none⟩ = some (.int .i64 a0_6) := (bc BK557.out 2).trans rfl
                  have hcz176_3 : w117.cell? ⟨gb557, 3, none⟩ = some (.string a0_7) := (bc BK557.out 3).trans rfl
                  have hfz176_0 := bf BK557.out 0
                  have hfz176_1 := bf BK557.out 1
                  have hfz176_2 := bf BK557.out 2
                  have hfz176_3 := bf BK557.out 3
                  go_wp2_with (first | (go_at_call 15; (with_reducible refine (batch_Encode.calls kj70 a0_4 a0_5 a0_6 a0_7 t588 _ A158.out).mono ?_); rintro e w177 ⟨rfl, hb⟩; have n0_ := Am (blk_below (g := gb555) (o := .cells #[.int .i64 a0_0, .int .i64 a0_1, .int .i64 a0_2, .string a0_3, .int .i64 a0_4, .int .i64 a0_5, .int .i64 a0_6, .string a0_7] 37 (0, 0)) (by (with_reducible repeat (first | refine bn ?_ _ | refine bd ?_ | refine ba ?_ _)); refine blk_far ?_ NB555_587.out _; (with_reducible repeat (first | refine bn ?_ _ | refine bd ?_ | refine ba ?_ _)); refine blk_far ?_ NB555_587.out _; (with_reducible repeat (first | refine bn ?_ _ | refine bd ?_ | refine ba ?_ _)); refine blk_far ?_ NB555_587.out _; (with_reducible repeat (first | refine bn ?_ _ | refine bd ?_ | refine ba ?_ _)); refine blk_far ?_ NB555_587.out _; (with_reducible repeat (first | refine bn ?_ _ | refine bd ?_ | refine ba ?_ _)); exact BK555.out) hb); have n1_ := Am (blk_below (g := gb556) (o := .cells #[.int .i64 a0_0, .int .i64 a0_1, .int .i64 a0_2, .string a0_3] 23 (0, 0)) (by (with_reducible repeat (first | refine bn ?_ _ | refine bd ?_ | refine ba ?_ _)); refine blk_far ?_ NB556_587.out _; (with_reducible repeat (first | refine bn ?_ _ | refine bd ?_ | refine ba ?_ _)); refine blk_far ?_ NB556_587.out _; (with_reducible repeat (first | refine bn ?_ _ | refine bd ?_ | refine ba ?_ _)); refine blk_far ?_ NB556_587.out _; (with_reducible repeat (first | refine bn ?_ _ | refine bd ?_ | refine ba ?_ _)); refine blk_far ?_ NB556_587.out _; (with_reducible repeat (first | refine bn ?_ _ | refine bd ?_ | refine ba ?_ _)); exact BK556.out) hb); have n2_ := Am (blk_below (g := gb557) (o := .cells #[.int .i64 a0_4, .int .i64 a0_5, .int .i64 a0_6, .string a0_7] 23 (0, 0)) (by (with_reducible repeat (first | refine bn ?_ _ | refine bd ?_ | refine ba ?_ _)); refine blk_far ?_ NB557_587.out _; (with_reducible repeat (first | refine bn ?_ _ | refine bd ?_ | refine ba ?_ _)); refine blk_far ?_ NB557_587.out _; (with_reducible repeat (first | refine bn ?_ _ | refine bd ?_ | refine ba ?_ _)); refine blk_far ?_ NB557_587.out _; (with_reducible repeat (first | refine bn ?_ _ | refine bd ?_ | refine ba ?_ _)); refine blk_far ?_ NB557_587.out _; (with_reducible repeat (first | refine bn ?_ _ | refine bd ?_ | refine ba ?_ _)); exact BK557.out) hb); have n3_ := Am (blk_below (g := gb566) (o := .cells #[.int .i64 t560, .int .i64 t561, .int .i64 t562, .string t563] 23 (0, 0)) (by (with_reducible repeat (first | refine bn ?_ _ | refine bd ?_ | refine ba ?_ _)); refine blk_far ?_ NB566_587.out _; (with_reducible repeat (first | refine bn ?_ _ | refine bd ?_ | refine ba ?_ _)); refine blk_far ?_ NB566_587.out _; (with_reducible repeat (first | refine bn ?_ _ | refine bd ?_ | refine ba ?_ _)); refine blk_far ?_ NB566_587.out _; (with_reducible repeat (first | refine bn ?_ _ | refine bd ?_ | refine ba ?_ _)); refine blk_far ?_ NB566_587.out _; (with_reducible repeat (first | refine bn ?_ _ | refine bd ?_ | refine ba ?_ _)); exact BK566.out) hb); have n4_ := Am (blk_below (g := gb579) (o := .cells #[.int .i64 t573, .int .i64 t574, .int .i64 t575, .string t576] 23 (0, 0)) (by (with_reducible repeat (first | refine bn ?_ _ | refine bd ?_ | refine ba ?_ _)); refine blk_far ?_ NB579_587.out _; (with_reducible repeat (first | refine bn ?_ _ | refine bd ?_ | refine ba ?_ _)); refine blk_far ?_ NB579_587.out _; (with_reducible repeat (first | refine bn ?_ _ | refine bd ?_ | refine ba ?_ _)); refine blk_far ?_ NB579_587.out _; (with_reducible repeat (first | refine bn ?_ _ | refine bd ?_ | refine ba ?_ _)); refine blk_far ?_ NB579_587.out _; (with_reducible repeat (first | refine bn ?_ _ | refine bd ?_ | refine ba ?_ _)); exact BK579.out) hb); have n5_ := Am (blk_below (g := gb587) (o := .cells #[.int .i64 t581, .int .i64 t582, .int .i64 t583, .string t584] 23 (0, 0)) (by (with_reducible repeat (first | refine bn ?_ _ | refine bd ?_ | refine ba ?_ _)); refine blk_put (cs := #[.int .i64 t581, .int .i64 t582, .int .i64 t583, .string (⟨#[]⟩ : ByteArray)]) ?_ 3 _ rfl; (with_reducible repeat (first | refine bn ?_ _ | refine bd ?_ | refine ba ?_ _)); refine blk_put (cs := #[.int .i64 t581, .int .i64 t582, .int .i64 0, .string (⟨#[]⟩ : ByteArray)]) ?_ 2 _ rfl; (with_reducible repeat (first | refine bn ?_ _ | refine bd ?_ | refine ba ?_ _)); refine blk_put (cs := #[.int .i64 t581, .int .i64 0, .int .i64 0, .string (⟨#[]⟩ : ByteArray)]) ?_ 1 _ rfl; (with_reducible repeat (first | refine bn ?_ _ | refine bd ?_ | refine ba ?_ _)); refine blk_put (cs := #[.int .i64 0, .int .i64 0, .int .i64 0, .string (⟨#[]⟩ : ByteArray)]) ?_ 0 _ rfl; (with_reducible repeat (first | refine bn ?_ _ | refine bd ?_ | refine ba ?_ _)); exact BK587.out) hb); have n6_ := Am (below_step (by repeat (first | (with_reducible first | exact HB.out | apply bl | apply pN | apply b1 | refine bs ?_ GE555.out | refine bs ?_ GE556.out | refine bs ?_ GE557.out | refine bs ?_ GE566.out | refine bs ?_ GE579.out | refine bs ?_ GE587.out) | exact HB.out | exact HBo.out)) hb); clear BK555; clear BK556; clear BK557; clear BK566; clear BK579; clear BK587; clear HB; have BK555 := n0_; have BK556 := n1_; have BK557 := n2_; have BK566 := n3_; have BK579 := n4_; have BK587 := n5_; have HB := n6_; clear n0_ n1_ n2_ n3_ n4_ n5_ n6_; (try clear hb); (try clear hb2); (try clear hk); (try clear hi)))
                  go_meet
                  case rel => exact ⟨_, ((t585 != (wrap64 (t577 + (t588.size : Int))))), (by first | rfl | (simp; done) | (simp [*]; done)), H', ⟨by have := HJ3.out; have := HJ42.out; have := HJ70.out; first | omega | exact Nat.le_refl _⟩, ⟨by (with_reducible repeat (first | refine bn ?_ _ | refine bd ?_ | refine ba ?_ _)); exact BK555.out⟩, ⟨by (with_reducible repeat (first | refine bn ?_ _ | refine bd ?_ | refine ba ?_ _)); exact BK556.out⟩, ⟨by (with_reducible repeat (first | refine bn ?_ _ | refine bd ?_ | refine ba ?_ _)); exact BK557.out⟩, ⟨by (with_reducible repeat (first | refine bn ?_ _ | refine bd ?_ | refine ba ?_ _)); exact BK566.out⟩, ⟨by (with_reducible repeat (first | refine bn ?_ _ | refine bd ?_ | refine ba ?_ _)); exact BK579.out⟩, ⟨by (with_reducible repeat (first | refine bn ?_ _ | refine bd ?_ | refine ba ?_ _)); exact BK587.out⟩, ⟨by repeat (first | (with_reducible first | exact HB.out | apply bl | apply pN | apply b1 | refine bs ?_ GE555.out | refine bs ?_ GE556.out | refine bs ?_ GE557.out | refine bs ?_ GE566.out | refine bs ?_ GE579.out | refine bs ?_ GE587.out) | exact HB.out | exact HBo.out)⟩⟩
                 ·
                  rw [if_neg c157] at H
                  have c157b0 : (t577 == (t571.size : Int)) = false := beq_eq_false_iff_ne.mpr c157
                  have c157b1 : (t577 != (t571.size : Int)) = true := bne_iff_ne.mpr c157
                  have H' := Am H
                  clear H
                  have hnb178 := NB579_555.out
                  have hnc178 := NB555_579.out
                  have hnb179 := NB579_556.out
                  have hnc179 := NB556_579.out
                  have hnb180 := NB579_557.out
                  have hnc180 := NB557_579.out
                  have hnb181 := NB579_566.out
                  have hnc181 := NB566_579.out
                  have hnb182 := NB579_587.out
                  have hnc182 := NB587_579.out
                  have hcz183_0 : w117.cell? ⟨gb579, 0, none⟩ = some (.int .i64 t573) := (bc BK579.out 0).trans rfl
                  have hcz183_1 : w117.cell? ⟨gb579, 1, none⟩ = some (.int .i64 t574) := (bc BK579.out 1).trans rfl
                  have hcz183_2 : w117.cell? ⟨gb579, 2, none⟩ = some (.int .i64 t575) := (bc BK579.out 2).trans rfl
                  have hcz183_3 : w117.cell? ⟨gb579, 3, none⟩ = some (.string t576) := (bc BK579.out 3).trans rfl
                  have hfz183_0 := bf BK579.out 0
                  have hfz183_1 := bf BK579.out 1
                  have hfz183_2 := bf BK579.out 2
                  have hfz183_3 := bf BK579.out 3
                  have hnb184 := NB556_555.out
                  have hnc184 := NB555_556.out
                  have hnb185 := NB556_557.out
                  have hnc185 := NB557_556.out
                  have hnb186 := NB556_566.out
                  have hnc186 := NB566_556.out
                  have hnb187 := NB556_587.out
                  have hnc187 := NB587_556.out
                  have hcz188_0 : w117.cell? ⟨gb556, 0, none⟩ = some (.int .i64 a0_0) := (bc BK556.out 0).trans rfl
                  have hcz188_1 : w117.cell? ⟨gb556, 1, none⟩ = some (.int .i64 a0_1) := (bc BK556.out 1).trans rfl
                  have hcz188_2 : w117.cell? ⟨gb556, 2, none⟩ = some (.int .i64 a0_2) := (bc BK556.out 2).trans rfl
                  have hcz188_3 : w117.cell? ⟨gb556, 3, none⟩ = some (.string a0_3) := (bc BK556.out 3).trans rfl
                  have hfz188_0 := bf BK556.out 0
                  have hfz188_1 := bf BK556.out 1
                  have hfz188_2 := bf BK556.out 2
                  have hfz188_3 := bf BK556.out 3
                  have hnb189 := NB587_555.out
                  have hnc189 := NB555_587.out
                  have hnb190 := NB587_557.out
                  have hnc190 := NB557_587.out
                  have hnb191 := NB587_566.out
                  have hnc191 := NB566_587.out
                  have hcz192_0 : w117.cell? ⟨gb587, 0, none⟩ = some (.int .i64 0) := (bc BK587.out 0).trans rfl
                  have hcz192_1 : w117.cell? ⟨gb587, 1, none⟩ = some (.int .i64 0) := (bc BK587.out 1).trans rfl
                  have hcz192_2 : w117.cell? ⟨gb587, 2, none⟩ = some (.int .i64 0) := (bc BK587.out 2).trans rfl
                  have hcz192_3 : w117.cell? ⟨gb587, 3, none⟩ = some (.string (⟨#[]⟩ : ByteArray)) := (bc BK587.out 3).trans rfl
                  have hfz192_0 := bf BK587.out 0
                  have hfz192_1 := bf BK587.out 1
                  have hfz192_2 := bf BK587.out 2
                  have hfz192_3 := bf BK587.out 3
                  have hnb193 := NB557_555.out
                  have hnc193 := NB555_557.out
                  have hnb194 := NB557_566.out
                  have hnc194 := NB566_557.out
                  have hcz195_0 : w117.cell? ⟨gb557, 0, none⟩ = some (.int .i64 a0_4) := (bc BK557.out 0).trans rfl
                  have hcz195_1 : w117.cell? ⟨gb557, 1, none⟩ = some (.int .i64 a0_5) := (bc BK557.out 1).trans rfl
                  have hcz195_2 : w117.cell? ⟨gb557, 2, none⟩ = some (.int .i64 a0_6) := (bc BK557.out 2).trans rfl
                  have hcz195_3 : w117.cell? ⟨gb557, 3, none⟩ = some (.string a0_7) := (bc BK557.out 3).trans rfl
                  have hfz195_0 := bf BK557.out 0
                  have hfz195_1 := bf BK557.out 1
                  have hfz195_2 := bf BK557.out 2
                  have hfz195_3 := bf BK557.out 3
                  go_wp2
                  go_meet
                  case rel => exact ⟨_, (true), (by first | rfl | (simp; done) | (simp [*]; done)), H', ⟨by have := HJ3.out; have := HJ42.out; have := HJ70.out; first | omega | exact Nat.le_refl _⟩, ⟨by (with_reducible repeat (first | refine bn ?_ _ | refine bd ?_ | refine ba ?_ _)); refine blk_far ?_ NB555_587.out _; (with_reducible repeat (first | refine bn ?_ _ | refine bd ?_ | refine ba ?_ _)); refine blk_far ?_ NB555_587.out _; (with_reducible repeat (first | refine bn ?_ _ | refine bd ?_ | refine ba ?_ _)); refine blk_far ?_ NB555_587.out _; (with_reducible repeat (first | refine bn ?_ _ | refine bd ?_ | refine ba ?_ _)); refine blk_far ?_ NB555_587.out _; (with_reducible repeat (first | refine bn ?_ _ | refine bd ?_ | refine ba ?_ _)); exact BK555.out⟩, ⟨by (with_reducible repeat (first | refine bn ?_ _ | refine bd ?_ | refine ba ?_ _)); refine blk_far ?_ NB556_587.out _; (with_reducible repeat (first | refine bn ?_ _ | refine bd ?_ | refine ba ?_ _)); refine blk_far ?_ NB556_587.out _; (with_reducible repeat (first | refine bn ?_ _ | refine bd ?_ | refine ba ?_ _)); refine blk_far ?_ NB556_587.out _; (with_reducible repeat (first | refine bn ?_ _ | refine bd ?_ | refine ba ?_ _)); refine blk_far ?_ NB556_587.out _; (with_reducible repeat (first | refine bn ?_ _ | refine bd ?_ | refine ba ?_ _)); exact BK556.out⟩, ⟨by (with_reducible repeat (first | refine bn ?_ _ | refine bd ?_ | refine ba ?_ _)); refine blk_far ?_ NB557_587.out _; (with_reducible repeat (first | refine bn ?_ _ | refine bd ?_ | refine ba ?_ _)); refine blk_far ?_ NB557_587.out _; (with_reducible repeat (first | refine bn ?_ _ | refine bd ?_ | refine ba ?_ _)); refine blk_far ?_ NB557_587.out _; (with_reducible repeat (first | refine bn ?_ _ | refine bd ?_ | refine ba ?_ _)); refine blk_far ?_ NB557_587.out _; (with_reducible repeat (first | refine bn ?_ _ | refine bd ?_ | refine ba ?_ _)); exact BK557.out⟩, ⟨by (with_reducible repeat (first | refine bn ?_ _ | refine bd ?_ | refine ba ?_ _)); refine blk_far ?_ NB566_587.out _; (with_reducible repeat (first | refine bn ?_ _ | refine bd ?_ | refine ba ?_ _)); refine blk_far ?_ NB566_587.out _; (with_reducible repeat (first | refine bn ?_ _ | refine bd ?_ | refine ba ?_ _)); refine blk_far ?_ NB566_587.out _; (with_reducible repeat (first | refine bn ?_ _ | refine bd ?_ | refine ba ?_ _)); refine blk_far ?_ NB566_587.out _; (with_reducible repeat (first | refine bn ?_ _ | refine bd ?_ | refine ba ?_ _)); exact BK566.out⟩, ⟨by (with_reducible repeat (first | refine bn ?_ _ | refine bd ?_ | refine ba ?_ _)); refine blk_far ?_ NB579_587.out _; (with_reducible repeat (first | refine bn ?_ _ | refine bd ?_ | refine ba ?_ _)); refine blk_far ?_ NB579_587.out _; (with_reducible repeat (first | refine bn ?_ _ | refine bd ?_ | refine ba ?_ _)); refine blk_far ?_ NB579_587.out _; (with_reducible repeat (first | refine bn ?_ _ | refine bd ?_ | refine ba ?_ _)); refine blk_far ?_ NB579_587.out _; (with_reducible repeat (first | refine bn ?_ _ | refine bd ?_ | refine ba ?_ _)); exact BK579.out⟩, ⟨by (with_reducible repeat (first | refine bn ?_ _ | refine bd ?_ | refine ba ?_ _)); refine blk_put (cs := #[.int .i64 t581, .int .i64 t582, .int .i64 t583, .string (⟨#[]⟩ : ByteArray)]) ?_ 3 _ rfl; (with_reducible repeat (first | refine bn ?_ _ | refine bd ?_ | refine ba ?_ _)); refine blk_put (cs := #[.int .i64 t581, .int .i64 t582, .int .i64 0, .string (⟨#[]⟩ : ByteArray)]) ?_ 2 _ rfl; (with_reducible repeat (first | refine bn ?_ _ | refine bd ?_ | refine ba ?_ _)); refine blk_put (cs := #[.int .i64 t581, .int .i64 0, .int .i64 0, .string (⟨#[]⟩ : ByteArray)]) ?_ 1 _ rfl; (with_reducible repeat (first | refine bn ?_ _ | refine bd ?_ | refine ba ?_ _)); refine blk_put (cs := #[.int .i64 0, .int .i64 0, .int .i64 0, .string (⟨#[]⟩ : ByteArray)]) ?_ 0 _ rfl; (with_reducible repeat (first | refine bn ?_ _ | refine bd ?_ | refine ba ?_ _)); exact BK587.out⟩, ⟨by repeat (first | (with_reducible first | exact HB.out | apply bl | apply pN | apply b1 | refine bs ?_ GE555.out | refine bs ?_ GE556.out | refine bs ?_ GE557.out | refine bs ?_ GE566.out | refine bs ?_ GE579.out | refine bs ?_ GE587.out) | exact HB.out | exact HBo.out)⟩⟩
              ·
               rw [if_neg c125] at H
               have c125b0 : (t586 == 0) = false := beq_eq_false_iff_ne.mpr c125
               have c125b1 : (t586 != 0) = true := bne_iff_ne.mpr c125
               have H' := Am H
               clear H
               go_wp2
               go_meet
               case rel => exact ⟨_, (true), (by first | rfl | (simp; done) | (simp [*]; done)), H', ⟨by have := HJ3.out; have := HJ42.out; have := HJ70.out; first | omega | exact Nat.le_refl _⟩, ⟨by (with_reducible repeat (first | refine bn ?_ _ | refine bd ?_ | refine ba ?_ _)); refine blk_far ?_ NB555_587.out _; (with_reducible repeat (first | refine bn ?_ _ | refine bd ?_ | refine ba ?_ _)); refine blk_far ?_ NB555_587.out _; (with_reducible repeat (first | refine bn ?_ _ | refine bd ?_ | refine ba ?_ _)); refine blk_far ?_ NB555_587.out _; (with_reducible repeat (first | refine bn ?_ _ | refine bd ?_ | refine ba ?_ _)); refine blk_far ?_ NB555_587.out _; (with_reducible repeat (first | refine bn ?_ _ | refine bd ?_ | refine ba ?_ _)); exact BK555.out⟩, ⟨by (with_reducible repeat (first | refine bn ?_ _ | refine bd ?_ | refine ba ?_ _)); refine blk_far ?_ NB556_587.out _; (with_reducible repeat (first | refine bn ?_ _ | refine bd ?_ | refine ba ?_ _)); refine blk_far ?_ NB556_587.out _; (with_reducible repeat (first | refine bn ?_ _ | refine bd ?_ | refine ba ?_ _)); refine blk_far ?_ NB556_587.out _; (with_reducible repeat (first | refine bn ?_ _ | refine bd ?_ | refine ba ?_ _)); refine blk_far ?_ NB556_587.out _; (with_reducible repeat (first | refine bn ?_ _ | refine bd ?_ | refine ba ?_ _)); exact BK556.out⟩, ⟨by (with_reducible repeat (first | refine bn ?_ _ | refine bd ?_ | refine ba ?_ _)); refine blk_far ?_ NB557_587.out _; (with_reducible repeat (first | refine bn ?_ _ | refine bd ?_ | refine ba ?_ _)); refine blk_far ?_ NB557_587.out _; (with_reducible repeat (first | refine bn ?_ _ | refine bd ?_ | refine ba ?_ _)); refine blk_far ?_ NB557_587.out _; (with_reducible repeat (first | refine bn ?_ _ | refine bd ?_ | refine ba ?_ _)); refine blk_far ?_ NB557_587.out _; (with_reducible repeat (first | refine bn ?_ _ | refine bd ?_ | refine ba ?_ _)); exact BK557.out⟩, ⟨by (with_reducible repeat (first | refine bn ?_ _ | refine bd ?_ | refine ba ?_ _)); refine blk_far ?_ NB566_587.out _; (with_reducible repeat (first | refine bn ?_ _ | refine bd ?_ | refine ba ?_ _)); refine blk_far ?_ NB566_587.out _; (with_reducible repeat (first | refine bn ?_ _ | refine bd ?_ | refine ba ?_ _)); refine blk_far ?_ NB566_587.out _; (with_reducible repeat (first | refine bn ?_ _ | refine bd ?_ | refine ba ?_ _)); refine blk_far ?_ NB566_587.out _; (with_reducible repeat (first | refine bn ?_ _ | refine bd ?_ | refine ba ?_ _)); exact BK566.out⟩, ⟨by (with_reducible repeat (first | refine bn ?_ _ | refine bd ?_ | refine ba ?_ _)); refine blk_far ?_ NB579_587.out _; (with_reducible repeat (first | refine bn ?_ _ | refine bd ?_ | refine ba ?_ _)); refine blk_far ?_ NB579_587.out _; (with_reducible repeat (first | refine bn ?_ _ | refine bd ?_ | refine ba ?_ _)); refine blk_far ?_ NB579_587.out _; (with_reducible repeat (first | refine bn ?_ _ | refine bd ?_ | refine ba ?_ _)); refine blk_far ?_ NB579_587.out _; (with_reducible repeat (first | refine bn ?_ _ | refine bd ?_ | refine ba ?_ _)); exact BK579.out⟩, ⟨by (with_reducible repeat (first | refine bn ?_ _ | refine bd ?_ | refine ba ?_ _)); refine blk_put (cs := #[.int .i64 t581, .int .i64 t582, .int .i64 t583, .string (⟨#[]⟩ : ByteArray)]) ?_ 3 _ rfl; (with_reducible repeat (first | refine bn ?_ _ | refine bd ?_ | refine ba ?_ _)); refine blk_put (cs := #[.int .i64 t581, .int .i64 t582, .int .i64 0, .string (⟨#[]⟩ : ByteArray)]) ?_ 2 _ rfl; (with_reducible repeat (first | refine bn ?_ _ | refine bd ?_ | refine ba ?_ _)); refine blk_put (cs := #[.int .i64 t581, .int .i64 0, .int .i64 0, .string (⟨#[]⟩ : ByteArray)]) ?_ 1 _ rfl; (with_reducible repeat (first | refine bn ?_ _ | refine bd ?_ | refine ba ?_ _)); refine blk_put (cs := #[.int .i64 0, .int .i64 0, .int .i64 0, .string (⟨#[]⟩ : ByteArray)]) ?_ 0 _ rfl; (with_reducible repeat (first | refine bn ?_ _ | refine bd ?_ | refine ba ?_ _)); exact BK587.out⟩, ⟨by repeat (first | (with_reducible first | exact HB.out | apply bl | apply pN | apply b1 | refine bs ?_ GE555.out | refine bs ?_ GE556.out | refine bs ?_ GE557.out | refine bs ?_ GE566.out | refine bs ?_ GE579.out | refine bs ?_ GE587.out) | exact HB.out | exact HBo.out)⟩⟩
             ·
              rw [if_neg c124] at H
              have c124b0 : (t578 == 0) = false := beq_eq_false_iff_ne.mpr c124
              have c124b1 : (t578 != 0) = true := bne_iff_ne.mpr c124
              (first | rw [c124b0] | (simp only [i64_w, i32_w]; rw [c124b0]) | skip)
              have H' := Am H
              clear H
              go_wp2
              go_meet
              case rel => exact ⟨_, (true), (by first | rfl | (simp; done) | (simp [*]; done)), H', ⟨by have := HJ3.out; have := HJ42.out; have := HJ70.out; first | omega | exact Nat.le_refl _⟩, ⟨by (with_reducible repeat (first | refine bn ?_ _ | refine bd ?_ | refine ba ?_ _)); refine blk_far ?_ NB555_587.out _; (with_reducible repeat (first | refine bn ?_ _ | refine bd ?_ | refine ba ?_ _)); refine blk_far ?_ NB555_587.out _; (with_reducible repeat (first | refine bn ?_ _ | refine bd ?_ | refine ba ?_ _)); refine blk_far ?_ NB555_587.out _; (with_reducible repeat (first | refine bn ?_ _ | refine bd ?_ | refine ba ?_ _)); refine blk_far ?_ NB555_587.out _; (with_reducible repeat (first | refine bn ?_ _ | refine bd ?_ | refine ba ?_ _)); exact BK555.out⟩, ⟨by (with_reducible repeat (first | refine bn ?_ _ | refine bd ?_ | refine ba ?_ _)); refine blk_far ?_ NB556_587.out _; (with_reducible repeat (first | refine bn ?_ _ | refine bd ?_ | refine ba ?_ _)); refine blk_far ?_ NB556_587.out _; (with_reducible repeat (first | refine bn ?_ _ | refine bd ?_ | refine ba ?_ _)); refine blk_far ?_ NB556_587.out _; (with_reducible repeat (first | refine bn ?_ _ | refine bd ?_ | refine ba ?_ _)); refine blk_far ?_ NB556_587.out _; (with_reducible repeat (first | refine bn ?_ _ | refine bd ?_ | refine ba ?_ _)); exact BK556.out⟩, ⟨by (with_reducible repeat (first | refine bn ?_ _ | refine bd ?_ | refine ba ?_ _)); refine blk_far ?_ NB557_587.out _; (with_reducible repeat (first | refine bn ?_ _ | refine bd ?_ | refine ba ?_ _)); refine blk_far ?_ NB557_587.out _; (with_reducible repeat (first | refine bn ?_ _ | refine bd ?_ | refine ba ?_ _)); refine blk_far ?_ NB557_587.out _; (with_reducible repeat (first | refine bn ?_ _ | refine bd ?_ | refine ba ?_ _)); refine blk_far ?_ NB557_587.out _; (with_reducible repeat (first | refine bn ?_ _ | refine bd ?_ | refine ba ?_ _)); exact BK557.out⟩, ⟨by (with_reducible repeat (first | refine bn ?_ _ | refine bd ?_ | refine ba ?_ _)); refine blk_far ?_ NB566_587.out _; (with_reducible repeat (first | refine bn ?_ _ | refine bd ?_ | refine ba ?_ _)); refine blk_far ?_ NB566_587.out _; (with_reducible repeat (first | refine bn ?_ _ | refine bd ?_ | refine ba ?_ _)); refine blk_far ?_ NB566_587.out _; (with_reducible repeat (first | refine bn ?_ _ | refine bd ?_ | refine ba ?_ _)); refine blk_far ?_ NB566_587.out _; (with_reducible repeat (first | refine bn ?_ _ | refine bd ?_ | refine ba ?_ _)); exact BK566.out⟩, ⟨by (with_reducible repeat (first | refine bn ?_ _ | refine bd ?_ | refine ba ?_ _)); refine blk_far ?_ NB579_587.out _; (with_reducible repeat (first | refine bn ?_ _ | refine bd ?_ | refine ba ?_ _)); refine blk_far ?_ NB579_587.out _; (with_reducible repeat (first | refine bn ?_ _ | refine bd ?_ | refine ba ?_ _)); refine blk_far ?_ NB579_587.out _; (with_reducible repeat (first | refine bn ?_ _ | refine bd ?_ | refine ba ?_ _)); refine blk_far ?_ NB579_587.out _; (with_reducible repeat (first | refine bn ?_ _ | refine bd ?_ | refine ba ?_ _)); exact BK579.out⟩, ⟨by (with_reducible repeat (first | refine bn ?_ _ | refine bd ?_ | refine ba ?_ _)); refine blk_put (cs := #[.int .i64 t581, .int .i64 t582, .int .i64 t583, .string (⟨#[]⟩ : ByteArray)]) ?_ 3 _ rfl; (with_reducible repeat (first | refine bn ?_ _ | refine bd ?_ | refine ba ?_ _)); refine blk_put (cs := #[.int .i64 t581, .int .i64 t582, .int .i64 0, .string (⟨#[]⟩ : ByteArray)]) ?_ 2 _ rfl; (with_reducible repeat (first | refine bn ?_ _ | refine bd ?_ | refine ba ?_ _)); refine blk_put (cs := #[.int .i64 t581, .int .i64 0, .int .i64 0, .string (⟨#[]⟩ : ByteArray)]) ?_ 1 _ rfl; (with_reducible repeat (first | refine bn ?_ _ | refine bd ?_ | refine ba ?_ _)); refine blk_put (cs := #[.int .i64 0, .int .i64 0, .int .i64 0, .string (⟨#[]⟩ : ByteArray)]) ?_ 0 _ rfl; (with_reducible repeat (first | refine bn ?_ _ | refine bd ?_ | refine ba ?_ _)); exact BK587.out⟩, ⟨by repeat (first | (with_reducible first | exact HB.out | apply bl | apply pN | apply b1 | refine bs ?_ GE555.out | refine bs ?_ GE556.out | refine bs ?_ GE557.out | refine bs ?_ GE566.out | refine bs ?_ GE579.out | refine bs ?_ GE587.out) | exact HB.out | exact HBo.out)⟩⟩
            case rest =>
             clear HC97
             try clear c1
             try clear p2
             try clear c5
             try clear c6
             try clear p6
             try clear c7
             try clear c8
             try clear c9
             try clear c10
             try clear c11
             try clear c12
             try clear c13
             try clear c14
             try clear c15
             try clear c16
             try clear c17
             try clear c18
             try clear c19
             try clear c50
             try clear c50b0
             try clear c50b1
             try clear c52
             try clear c53
             try clear c53b0
             try clear c59
             try clear c59b0
             try clear c59b1
             try clear c60
             try clear c60b0
             try clear c60b1
             try clear p64
             try clear c70
             try clear c73
             try clear c75
             try clear c76
             try clear c77
             try clear c80
             try clear c81
             try clear c84
             try clear c85
             try clear c86
             try clear c89
             try clear c92
             try clear c92b0
             try clear c92b1
             try clear c92b2
             try clear c95
             try clear c95b0
             try clear c95b1
             try clear c95b2
             try clear c98
             try clear c99
             try clear c100
             try clear c103
             try clear c104
             try clear c109
             try clear c110
             try clear c111
             try clear c112
             try clear c118
             try clear c119
             try clear c120
             try clear c121
             try clear c122
             try clear c124
             try clear c124b0
             try clear c124b1
             try clear c125
             try clear c125b0
             try clear c125b1
             try clear c126
             try clear c126b0
             try clear c127
             try clear c128
             try clear c129
             try clear c130
             try clear c131
             try clear c133
             try clear c134
             try clear c135
             try clear c136
             try clear c138
             try clear c138b0
             try clear c139
             try clear c140
             try clear c141
             try clear c142
             try clear c143
             try clear c145
             try clear c146
             try clear c147
             try clear c148
             try clear c150
             try clear c151
             try clear c152
             try clear c154
             try clear c155
             try clear c157
             try clear c157b0
             try clear c157b1
             try clear c159
             try clear c160
             try clear c161
             try clear c162
             try clear c163
             try clear c165
             try clear c166
             try clear c167
             try clear c168
             try clear c170
             try clear c171
             try clear c172
             try clear c174
             try clear c175
             try clear c178
             try clear c179
             try clear c180
             try clear c181
             try clear c182
             try clear c184
             try clear c185
             try clear c186
             try clear c187
             try clear c189
             try clear c190
             try clear c191
             try clear c193
             try clear c194
             try clear hcz101_0
             try clear hcz101_1
             try clear hcz101_2
             try clear hcz101_3
             try clear hcz105_0
             try clear hcz105_1
             try clear hcz105_2
             try clear hcz105_3
             try clear hcz113_0
             try clear hcz113_1
             try clear hcz113_2
             try clear hcz113_3
             try clear hcz114_0
             try clear hcz114_1
             try clear hcz114_2
             try clear hcz114_3
             try clear hcz123_0
             try clear hcz123_1
             try clear hcz123_2
             try clear hcz123_3
             try clear hcz132_0
             try clear hcz132_1
             try clear hcz132_2
             try clear hcz132_3
             try clear hcz137_0
             try clear hcz137_1
             try clear hcz137_2
             try clear hcz137_3
             try clear hcz144_0
             try clear hcz144_1
             try clear hcz144_2
             try clear hcz144_3
             try clear hcz149_0
             try clear hcz149_1
             try clear hcz149_2
             try clear hcz149_3
             try clear hcz153_0
             try clear hcz153_1
             try clear hcz153_2
             try clear hcz153_3
             try clear hcz156_0
             try clear hcz156_1
             try clear hcz156_2
             try clear hcz156_3
             try clear hcz164_0
             try clear hcz164_1
             try clear hcz164_2
             try clear hcz164_3
             try clear hcz169_0
             try clear hcz169_1
             try clear hcz169_2
             try clear hcz169_3
             try clear hcz173_0
             try clear hcz173_1
             try clear hcz173_2
             try clear hcz173_3
             try clear hcz176_0
             try clear hcz176_1
             try clear hcz176_2
             try clear hcz176_3
             try clear hcz183_0
             try clear hcz183_1
             try clear hcz183_2
             try clear hcz183_3
             try clear hcz188_0
             try clear hcz188_1
             try clear hcz188_2
             try clear hcz188_3
             try clear hcz192_0
             try clear hcz192_1
             try clear hcz192_2
             try clear hcz192_3
             try clear hcz195_0
             try clear hcz195_1
             try clear hcz195_2
             try clear hcz195_3
             try clear hcz78_0
             try clear hcz78_1
             try clear hcz78_2
             try clear hcz78_3
             try clear hcz82_0
             try clear hcz82_1
             try clear hcz82_2
             try clear hcz82_3
             try clear hcz87_0
             try clear hcz87_1
             try clear hcz87_2
             try clear hcz87_3
             try clear hfz101_0
             try clear hfz101_1
             try clear hfz101_2
             try clear hfz101_3
             try clear hfz105_0
             try clear hfz105_1
             try clear hfz105_2
             try clear hfz105_3
             try clear hfz113_0
             try clear hfz113_1
             try clear hfz113_2
             try clear hfz113_3
             try clear hfz114_0
             try clear hfz114_1
             try clear hfz114_2
             try clear hfz114_3
             try clear hfz123_0
             try clear hfz123_1
             try clear hfz123_2
             try clear hfz123_3
             try clear hfz132_0
             try clear hfz132_1
             try clear hfz132_2
             try clear hfz132_3
             try clear hfz137_0
             try clear hfz137_1
             try clear hfz137_2
             try clear hfz137_3
             try clear hfz144_0
             try clear hfz144_1
             try clear hfz144_2
             try clear hfz144_3
             try clear hfz149_0
             try clear hfz149_1
             try clear hfz149_2
             try clear hfz149_3
             try clear hfz153_0
             try clear hfz153_1
             try clear hfz153_2
             try clear hfz153_3
             try clear hfz156_0
             try clear hfz156_1
             try clear hfz156_2
             try clear hfz156_3
             try clear hfz164_0
             try clear hfz164_1
             try clear hfz164_2
             try clear hfz164_3
             try clear hfz169_0
             try clear hfz169_1
             try clear hfz169_2
             try clear hfz169_3
             try clear hfz173_0
             try clear hfz173_1
             try clear hfz173_2
             try clear hfz173_3
             try clear hfz176_0
             try clear hfz176_1
             try clear hfz176_2
             try clear hfz176_3
             try clear hfz183_0
             try clear hfz183_1
             try clear hfz183_2
             try clear hfz183_3
             try clear hfz188_0
             try clear hfz188_1
             try clear hfz188_2
             try clear hfz188_3
             try clear hfz192_0
             try clear hfz192_1
             try clear hfz192_2
             try clear hfz192_3
             try clear hfz195_0
             try clear hfz195_1
             try clear hfz195_2
             try clear hfz195_3
             try clear hfz78_0
             try clear hfz78_1
             try clear hfz78_2
             try clear hfz78_3
             try clear hfz82_0
             try clear hfz82_1
             try clear hfz82_2
             try clear hfz82_3
             try clear hfz87_0
             try clear hfz87_1
             try clear hfz87_2
             try clear hfz87_3
             try clear p2
             obtain ⟨kq, x135_96, rfl, HA, HJ96, BK555, BK556, BK557, BK566, BK579, BK587, HB⟩ := hcut
             cases kq with
             | zero => exact absurd HA.out (by simp [shuttlecocklaw05_BatchBack.j3])
             | succ kj96 =>
              have H := HA.out
              clear HA
              simp only [shuttlecocklaw05_BatchBack.j3] at H
              by_cases c196 : x135_96 = true
              ·
               subst c196
               have H1 : (none) = some r := by rw [if_pos rfl] at H; exact H
               clear H
               have H := H1
               clear H1
               exact absurd H (by simp)
              ·
               replace c196 := Bool.eq_false_iff.mpr c196
               subst c196
               have H1 : (if a2 < 0 then (some true) else (if a2 ≥ (t571.size : Int) then (some true) else (if 0 ≤ a2 then (if a2 ≤ (t571.size : Int) then ((batch_Decode.f kj96 (t571.extract 0 (a2 : Int).toNat) 0).bind fun bt589 => (some (bt589.2.2.2.2.2 == 10))) else (none)) else (none)))) = some r := by rw [if_neg (show ¬ (false = true) by decide)] at H; exact H
               clear H
               have H := H1
               clear H1
               by_cases c197 : a2 < 0
               ·
                rw [if_pos c197] at H
                have c197b0 : decide (a2 < 0) = true := decide_eq_true c197
                clear c197
                obtain rfl := Option.some.inj H
                go_wp2
                go_ret
                exact ⟨by first | rfl | (simp [errW_none, errW_some] <;> rfl) | (simp [*, errW_none, errW_some] <;> rfl) | (simp [Aid.ne_nil, Aid.eq_nil, errW_none, errW_some]; done), by repeat (first | (with_reducible first | exact HB.out | apply bl | apply pN | apply b1 | refine bs ?_ GE555.out | refine bs ?_ GE556.out | refine bs ?_ GE557.out | refine bs ?_ GE566.out | refine bs ?_ GE579.out | refine bs ?_ GE587.out) | exact HB.out | exact HBo.out)⟩
               ·
                rw [if_neg c197] at H
                have c197b0 : decide (a2 < 0) = false := decide_eq_false c197
                clear c197
                by_cases c198 : a2 ≥ (t571.size : Int)
                ·
                 rw [if_pos c198] at H
                 have c198b0 : decide ((t571.size : Int) ≤ a2) = true := decide_eq_true c198
                 clear c198
                 obtain rfl := Option.some.inj H
                 go_wp2
                 go_ret
                 exact ⟨by first | rfl | (simp [errW_none, errW_some] <;> rfl) | (simp [*, errW_none, errW_some] <;> rfl) | (simp [Aid.ne_nil, Aid.eq_nil, errW_none, errW_some]; done), by repeat (first | (with_reducible first | exact HB.out | apply bl | apply pN | apply b1 | refine bs ?_ GE555.out | refine bs ?_ GE556.out | refine bs ?_ GE557.out | refine bs ?_ GE566.out | refine bs ?_ GE579.out | refine bs ?_ GE587.out) | exact HB.out | exact HBo.out)⟩
                ·
                 rw [if_neg c198] at H
                 have c198b0 : decide ((t571.size : Int) ≤ a2) = false := decide_eq_false c198
                 clear c198
                 by_cases c199 : 0 ≤ a2
                 ·
                  rw [if_pos c199] at H
                  have c199b0 := eq_true c199
                  have c199b1 : decide (0 ≤ a2) = true := decide_eq_true c199
                  clear c199
                  by_cases c200 : a2 ≤ (t571.size : Int)
                  ·
                   rw [if_pos c200] at H
                   have c200b0 := eq_true c200
                   have c200b1 : decide (a2 ≤ (t571.size : Int)) = true := decide_eq_true c200
                   clear c200
                   replace H := ob H
                   obtain ⟨⟨t589, t590, t591, t592, t593, t594⟩, A2010, H⟩ := H
                   replace H : (some (t594 == 10)) = some r := H
                   have A201 := Am A2010
                   clear A2010
                   obtain rfl := Option.some.inj H
                   go_wp2_with (first | ((with_reducible refine gate_callee (f := 9) rfl ?_); refine goesL_ (some 148) rfl rfl Try.func9 (by kernel_rfl) rfl #[.string (t571.extract 0 (a2 : Int).toNat), .int .i64 0] rfl (by (try simp only [List.map_toArray, List.map_cons, List.map_nil]); first | done | rfl | (simp only [List.length_drop, List.length_take]; rfl)) ?_; (with_reducible refine (batch_Decode.calls kj96 (t571.extract 0 (a2 : Int).toNat) 0 t589 t590 t591 t592 t593 t594 _ A201.out).mono ?_); rintro e w202 ⟨rfl, hb⟩; refine ⟨_, rfl, ?_⟩; have n0_ := Am (blk_below (g := gb555) (o := .cells #[.int .i64 a0_0, .int .i64 a0_1, .int .i64 a0_2, .string a0_3, .int .i64 a0_4, .int .i64 a0_5, .int .i64 a0_6, .string a0_7] 37 (0, 0)) (by (with_reducible repeat (first | refine bn ?_ _ | refine bd ?_ | refine ba ?_ _)); exact BK555.out) hb); have n1_ := Am (blk_below (g := gb556) (o := .cells #[.int .i64 a0_0, .int .i64 a0_1, .int .i64 a0_2, .string a0_3] 23 (0, 0)) (by (with_reducible repeat (first | refine bn ?_ _ | refine bd ?_ | refine ba ?_ _)); exact BK556.out) hb); have n2_ := Am (blk_below (g := gb557) (o := .cells #[.int .i64 a0_4, .int .i64 a0_5, .int .i64 a0_6, .string a0_7] 23 (0, 0)) (by (with_reducible repeat (first | refine bn ?_ _ | refine bd ?_ | refine ba ?_ _)); exact BK557.out) hb); have n3_ := Am (blk_below (g := gb566) (o := .cells #[.int .i64 t560, .int .i64 t561, .int .i64 t562, .string t563] 23 (0, 0)) (by (with_reducible repeat (first | refine bn ?_ _ | refine bd ?_ | refine ba ?_ _)); exact BK566.out) hb); have n4_ := Am (blk_below (g := gb579) (o := .cells #[.int .i64 t573, .int .i64 t574, .int .i64 t575, .string t576] 23 (0, 0)) (by (with_reducible repeat (first | refine bn ?_ _ | refine bd ?_ | refine ba ?_ _)); exact BK579.out) hb); have n5_ := Am (blk_below (g := gb587) (o := .cells #[.int .i64 t581, .int .i64 t582, .int .i64 t583, .string t584] 23 (0, 0)) (by (with_reducible repeat (first | refine bn ?_ _ | refine bd ?_ | refine ba ?_ _)); exact BK587.out) hb); have n6_ := Am (below_step (by repeat (first | (with_reducible first | exact HB.out | apply bl | apply pN | apply b1 | refine bs ?_ GE555.out | refine bs ?_ GE556.out | refine bs ?_ GE557.out | refine bs ?_ GE566.out | refine bs ?_ GE579.out | refine bs ?_ GE587.out) | exact HB.out | exact HBo.out)) hb); clear BK555; clear BK556; clear BK557; clear BK566; clear BK579; clear BK587; clear HB; have BK555 := n0_; have BK556 := n1_; have BK557 := n2_; have BK566 := n3_; have BK579 := n4_; have BK587 := n5_; have HB := n6_; clear n0_ n1_ n2_ n3_ n4_ n5_ n6_; (try clear hb); (try clear hb2); (try clear hk); (try clear hi)) | ((with_reducible refine gate_dst (N := 19) rfl ?_); (try (refine gate_guard (by rfl) ?_; dsimp only)); refine box_event ?hg (N := 19) ?hd (cs := #[.int .i64 0, .int .i64 0, .int .i64 0, .string (⟨#[]⟩ : ByteArray)]) (t := 23) ?hr ?_; (case hd => rfl); (case hg => rfl); (case hr => first | (go_simp; done) | (go_simp; rfl)); intro gb595 hg w203 hbox hb; have n0_ := Am (blk_below (g := gb555) (o := .cells #[.int .i64 a0_0, .int .i64 a0_1, .int .i64 a0_2, .string a0_3, .int .i64 a0_4, .int .i64 a0_5, .int .i64 a0_6, .string a0_7] 37 (0, 0)) (by (with_reducible repeat (first | refine bn ?_ _ | refine bd ?_ | refine ba ?_ _)); exact BK555.out) hb); have n1_ := Am (blk_below (g := gb556) (o := .cells #[.int .i64 a0_0, .int .i64 a0_1, .int .i64 a0_2, .string a0_3] 23 (0, 0)) (by (with_reducible repeat (first | refine bn ?_ _ | refine bd ?_ | refine ba ?_ _)); exact BK556.out) hb); have n2_ := Am (blk_below (g := gb557) (o := .cells #[.int .i64 a0_4, .int .i64 a0_5, .int .i64 a0_6, .string a0_7] 23 (0, 0)) (by (with_reducible repeat (first | refine bn ?_ _ | refine bd ?_ | refine ba ?_ _)); exact BK557.out) hb); have n3_ := Am (blk_below (g := gb566) (o := .cells #[.int .i64 t560, .int .i64 t561, .int .i64 t562, .string t563] 23 (0, 0)) (by (with_reducible repeat (first | refine bn ?_ _ | refine bd ?_ | refine ba ?_ _)); exact BK566.out) hb); have n4_ := Am (blk_below (g := gb579) (o := .cells #[.int .i64 t573, .int .i64 t574, .int .i64 t575, .string t576] 23 (0, 0)) (by (with_reducible repeat (first | refine bn ?_ _ | refine bd ?_ | refine ba ?_ _)); exact BK579.out) hb); have n5_ := Am (blk_below (g := gb587) (o := .cells #[.int .i64 t581, .int .i64 t582, .int .i64 t583, .string t584] 23 (0, 0)) (by (with_reducible repeat (first | refine bn ?_ _ | refine bd ?_ | refine ba ?_ _)); exact BK587.out) hb); have n6_ := Am (below_step (by repeat (first | (with_reducible first | exact HB.out | apply bl | apply pN | apply b1 | refine bs ?_ GE555.out | refine bs ?_ GE556.out | refine bs ?_ GE557.out | refine bs ?_ GE566.out | refine bs ?_ GE579.out | refine bs ?_ GE587.out) | exact HB.out | exact HBo.out)) hb); have n7_ := Am (hbox); have n8_ := Am ((by rw [hg]; exact (below_size (by repeat (first | (with_reducible first | exact HB.out | apply bl | apply pN | apply b1 | refine bs ?_ GE555.out | refine bs ?_ GE556.out | refine bs ?_ GE557.out | refine bs ?_ GE566.out | refine bs ?_ GE579.out | refine bs ?_ GE587.out) | exact HB.out | exact HBo.out))) : w.heap.size ≤ gb595)); have n9_ := Am ((by rw [hg]; exact (below_size (by repeat (first | (with_reducible first | exact HB.out | apply bl | apply pN | apply b1 | refine bs ?_ GE555.out | refine bs ?_ GE556.out | refine bs ?_ GE557.out | refine bs ?_ GE566.out | refine bs ?_ GE579.out | refine bs ?_ GE587.out) | exact HB.out | exact HBo.out))) : w.heap.size ≤ gb595)); have n10_ := Am ((by rw [hg]; exact Nat.ne_of_lt (blk_lt (g := gb555) (o := .cells #[.int .i64 a0_0, .int .i64 a0_1, .int .i64 a0_2, .string a0_3, .int .i64 a0_4, .int .i64 a0_5, .int .i64 a0_6, .string a0_7] 37 (0, 0)) (by (with_reducible repeat (first | refine bn ?_ _ | refine bd ?_ | refine ba ?_ _)); exact BK555.out)) : gb555 ≠ gb595)); have n11_ := Am ((by rw [hg]; exact Nat.ne_of_gt (blk_lt (g := gb555) (o := .cells #[.int .i64 a0_0, .int .i64 a0_1, .int .i64 a0_2, .string a0_3, .int .i64 a0_4, .int .i64 a0_5, .int .i64 a0_6, .string a0_7] 37 (0, 0)) (by (with_reducible repeat (first | refine bn ?_ _ | refine bd ?_ | refine ba ?_ _)); exact BK555.out)) : gb595 ≠ gb555)); have n12_ := Am ((by rw [hg]; exact Nat.ne_of_lt (blk_lt (g := gb556) (o := .cells #[.int .i64 a0_0, .int .i64 a0_1, .int .i64 a0_2, .string a0_3] 23 (0, 0)) (by (with_reducible repeat (first | refine bn ?_ _ | refine bd ?_ | refine ba ?_ _)); exact BK556.out)) : gb556 ≠ gb595)); have n13_ := Am ((by rw [hg]; exact Nat.ne_of_gt (blk_lt (g := gb556) (o := .cells #[.int .i64 a0_0, .int .i64 a0_1, .int .i64 a0_2, .string a0_3] 23 (0, 0)) (by (with_reducible repeat (first | refine bn ?_ _ | refine bd ?_ | refine ba ?_ _)); exact BK556.out)) : gb595 ≠ gb556)); have n14_ := Am ((by rw [hg]; exact Nat.ne_of_lt (blk_lt (g := gb557) (o := .cells #[.int .i64 a0_4, .int .i64 a0_5, .int .i64 a0_6, .string a0_7] 23 (0, 0)) (by (with_reducible repeat (first | refine bn ?_ _ | refine bd ?_ | refine ba ?_ _)); exact BK557.out)) : gb557 ≠ gb595)); have n15_ := Am ((by rw [hg]; exact Nat.ne_of_gt (blk_lt (g := gb557) (o := .cells #[.int .i64 a0_4, .int .i64 a0_5, .int .i64 a0_6, .string a0_7] 23 (0, 0)) (by (with_reducible repeat (first | refine bn ?_ _ | refine bd ?_ | refine ba ?_ _)); exact BK557.out)) : gb595 ≠ gb557)); have n16_ := Am ((by rw [hg]; exact Nat.ne_of_lt (blk_lt (g := gb566) (o := .cells #[.int .i64 t560, .int .i64 t561, .int .i64 t562, .string t563] 23 (0, 0)) (by (with_reducible repeat (first | refine bn ?_ _ | refine bd ?_ | refine ba ?_ _)); exact BK566.out)) : gb566 ≠ gb595)); have n17_ := Am ((by rw [hg]; exact Nat.ne_of_gt (blk_lt (g := gb566) (o := .cells #[.int .i64 t560, .int .i64 t561, .int .i64 t562, .string t563] 23 (0, 0)) (by (with_reducible repeat (first | refine bn ?_ _ | refine bd ?_ | refine ba ?_ _)); exact BK566.out)) : gb595 ≠ gb566)); have n18_ := Am ((by rw [hg]; exact Nat.ne_of_lt (blk_lt (g := gb579) (o := .cells #[.int .i64 t573, .int .i64 t574, .int .i64 t575, .string t576] 23 (0, 0)) (by (with_reducible repeat (first | refine bn ?_ _ | refine bd ?_ | refine ba ?_ _)); exact BK579.out)) : gb579 ≠ gb595)); have n19_ := Am ((by rw [hg]; exact Nat.ne_of_gt (blk_lt (g := gb579) (o := .cells #[.int .i64 t573, .int .i64 t574, .int .i64 t575, .string t576] 23 (0, 0)) (by (with_reducible repeat (first | refine bn ?_ _ | refine bd ?_ | refine ba ?_ _)); exact BK579.out)) : gb595 ≠ gb579)); have n20_ := Am ((by rw [hg]; exact Nat.ne_of_lt (blk_lt (g := gb587) (o := .cells #[.int .i64 t581, .int .i64 t582, .int .i64 t583, .string t584] 23 (0, 0)) (by (with_reducible repeat (first | refine bn ?_ _ | refine bd ?_ | refine ba ?_ _)); exact BK587.out)) : gb587 ≠ gb595)); have n21_ := Am ((by rw [hg]; exact Nat.ne_of_gt (blk_lt (g := gb587) (o := .cells #[.int .i64 t581, .int .i64 t582, .int .i64 t583, .string t584] 23 (0, 0)) (by (with_reducible repeat (first | refine bn ?_ _ | refine bd ?_ | refine ba ?_ _)); exact BK587.out)) : gb595 ≠ gb587)); clear BK555; clear BK556; clear BK557; clear BK566; clear BK579; clear BK587; clear HB; have BK555 := n0_; have BK556 := n1_; have BK557 := n2_; have BK566 := n3_; have BK579 := n4_; have BK587 := n5_; have HB := n6_; have BK595 := n7_; have GW595 := n8_; have GE595 := n9_; have NB555_595 := n10_; have NB595_555 := n11_; have NB556_595 := n12_; have NB595_556 := n13_; have NB557_595 := n14_; have NB595_557 := n15_; have NB566_595 := n16_; have NB595_566 := n17_; have NB579_595 := n18_; have NB595_579 := n19_; have NB587_595 := n20_; have NB595_587 := n21_; clear n0_ n1_ n2_ n3_ n4_ n5_ n6_ n7_ n8_ n9_ n10_ n11_ n12_ n13_ n14_ n15_ n16_ n17_ n18_ n19_ n20_ n21_; clear hb hbox hg; have hnb204 := NB595_555.out; have hnc204 := NB555_595.out; have hnb205 := NB595_556.out; have hnc205 := NB556_595.out; have hnb206 := NB595_557.out; have hnc206 := NB557_595.out; have hnb207 := NB595_566.out; have hnc207 := NB566_595.out; have hnb208 := NB595_579.out; have hnc208 := NB579_595.out; have hnb209 := NB595_587.out; have hnc209 := NB587_595.out; have hcz210_0 : w203.cell? ⟨gb595, 0, none⟩ = some (.int .i64 0) := (bc BK595.out 0).trans rfl; have hcz210_1 : w203.cell? ⟨gb595, 1, none⟩ = some (.int .i64 0) := (bc BK595.out 1).trans rfl; have hcz210_2 : w203.cell? ⟨gb595, 2, none⟩ = some (.int .i64 0) := (bc BK595.out 2).trans rfl; have hcz210_3 : w203.cell? ⟨gb595, 3, none⟩ = some (.string (⟨#[]⟩ : ByteArray)) := (bc BK595.out 3).trans rfl; have hfz210_0 := bf BK595.out 0; have hfz210_1 := bf BK595.out 1; have hfz210_2 := bf BK595.out 2; have hfz210_3 := bf BK595.out 3))
                   go_ret
                   exact ⟨by first | rfl | (simp [errW_none, errW_some] <;> rfl) | (simp [*, errW_none, errW_some] <;> rfl) | (simp [Aid.ne_nil, Aid.eq_nil, errW_none, errW_some]; done), by repeat (first | (with_reducible first | exact HB.out | apply bl | apply pN | apply b1 | refine bs ?_ GE555.out | refine bs ?_ GE556.out | refine bs ?_ GE557.out | refine bs ?_ GE566.out | refine bs ?_ GE579.out | refine bs ?_ GE587.out | refine bs ?_ GE595.out) | exact HB.out | exact HBo.out)⟩
                  ·
                   rw [if_neg c200] at H
                   exact absurd H (by simp)
                 ·
                  rw [if_neg c199] at H
                  exact absurd H (by simp)
           ·
            rw [if_neg c95] at H
            exact absurd H (by simp)
          ·
           rw [if_neg c92] at H
           exact absurd H (by simp)

/-- THE ONE PURE STATEMENT of shuttlecocklaw05_BatchBack (own row). -/
def shuttlecocklaw05_BatchBack.Pure : Prop := ∀ (y0 : S37) (y1 : ByteArray) (y2 : Int), (((Lit.int .i64 y0.f0.f0).wf = true ∧ (Lit.int .i64 y0.f0.f1).wf = true ∧ (Lit.int .i64 y0.f0.f2).wf = true ∧ y0.f0.f3.size ≤ 140737488351232) ∧ ((Lit.int .i64 y0.f1.f0).wf = true ∧ (Lit.int .i64 y0.f1.f1).wf = true ∧ (Lit.int .i64 y0.f1.f2).wf = true ∧ y0.f1.f3.size ≤ 140737488351232)) → y1.size ≤ 140737488351232 → (Lit.int .i64 y2).wf = true → ∃ k, shuttlecocklaw05_BatchBack.f k y0.f0.f0 y0.f0.f1 y0.f0.f2 y0.f0.f3 y0.f1.f0 y0.f1.f1 y0.f1.f2 y0.f1.f3 y1 y2 = some true

end Go.Proofs.Ytfcombimnmkoeaa.Q
