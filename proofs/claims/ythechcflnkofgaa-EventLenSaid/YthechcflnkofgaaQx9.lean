-- printed by a program of this session (NOTES: hprint); not the kit's print
-- minified
-- halved
import Derived.Test.YthechcflnkofgaaAl
import Derived.Test.YthechcflnkofgaaQx0
import Derived.Test.YthechcflnkofgaaQx1
import Derived.Test.YthechcflnkofgaaQx7
import Derived.Test.YthechcflnkofgaaQx8
namespace Go.Proofs.Ythechcflnkofgaa.Q
open Go.RowKit Go.Proofs.YthechcflnkofgaaW.PrintWords Go.Proofs.YthechcflnkofgaaW.PrintLast Go.Proofs.YthechcflnkofgaaW.PrintMore
attribute [local go_sem] max2_int min2_int max_two min_two max_three min_three max_four min_four   -- for this text's walks alone
set_option linter.unusedVariables false
set_option linter.unusedSimpArgs false

def q9_0 : Array Bool := let o := true; let z := false; #[z,z,z,z,z,z,z,z,z,z,z]
def q9_1 : Array Bool := let o := true; let z := false; #[o,z,z,z,z,z,z,z,z,z,z]
def q9_2 : Array Bool := let o := true; let z := false; #[o,o,z,z,z,z,z,z,z,z,z]
def q9_3 : Array Bool := let o := true; let z := false; #[o,o,z,z,z,o,z,z,z,z,z]
def q9_4 : Array Bool := let o := true; let z := false; #[o,o,o,z,z,o,z,z,z,z,z]
def q9_5 : Array Bool := let o := true; let z := false; #[o,o,o,o,z,o,z,z,z,z,z]
def q9_6 : Array Bool := let o := true; let z := false; #[o,o,o,o,z,o,o,z,z,z,z]
def q9_7 : Array Bool := let o := true; let z := false; #[o,o,o,o,z,o,o,o,z,z,z]
def q9_8 : Array Bool := let o := true; let z := false; #[o,o,o,o,o,o,o,o,z,z,z]
def q9_9 : Array Bool := let o := true; let z := false; #[o,o,o,o,o,o,o,o,o,z,z]
def q9_10 : Array Bool := let o := true; let z := false; #[o,o,o,o,o,o,o,o,o,o,z]
def q9_11 : Array Bool := let o := true; let z := false; #[o,o,o,o,o,o,o,o,o,o,o]
def q9_12 : Array Bool := let o := true; let z := false; #[z,z,z,z,z,z,z,z,z,z,z,z,z,z,z,z,z,z,z,z,z,z,z,z,z,z,z,z,z,z,z,z,z,z,z,z,z,z,z]
def q9_13 : Array Bool := let o := true; let z := false; #[o,z,z,z,z,z,z,z,z,z,z,z,z,z,z,z,z,z,z,z,z,z,z,z,z,z,z,z,z,z,z,z,z,z,z,z,z,z,z]
def q9_14 : Array Bool := let o := true; let z := false; #[o,o,z,z,z,z,z,z,z,z,z,z,z,z,z,z,z,z,z,z,z,z,z,z,z,z,z,z,z,z,z,z,z,z,z,z,z,z,z]
def q9_15 : Array Bool := let o := true; let z := false; #[o,o,o,z,z,z,z,z,z,z,z,z,z,z,z,z,z,z,z,z,z,z,z,z,z,z,z,z,z,z,z,z,z,z,z,z,z,z,z]
def q9_16 : Array Bool := let o := true; let z := false; #[o,o,o,o,z,z,z,z,z,z,z,z,z,z,z,z,z,z,z,z,z,z,z,z,z,z,z,z,z,z,z,z,z,z,z,z,z,z,z]
def q9_17 : Array Bool := let o := true; let z := false; #[o,o,o,o,o,z,z,z,z,z,z,z,z,z,z,z,z,z,z,z,z,z,z,z,z,z,z,z,z,z,z,z,z,z,z,z,z,z,z]
def q9_18 : Array Bool := let o := true; let z := false; #[o,o,o,o,o,o,z,z,z,z,z,z,z,z,z,z,z,z,z,z,z,z,z,z,z,z,z,z,z,z,z,z,z,z,z,z,z,z,z]
def q9_19 : Array Bool := let o := true; let z := false; #[o,o,o,o,o,o,o,z,z,z,z,z,z,z,z,z,z,z,z,z,z,z,z,z,z,z,z,z,z,z,z,z,z,z,z,z,z,z,z]
def q9_20 : Array Bool := let o := true; let z := false; #[o,o,o,o,o,o,o,o,z,z,z,z,z,z,z,z,z,z,z,z,z,z,z,z,z,z,z,z,z,z,z,z,z,z,z,z,z,z,z]
def q9_21 : Array Bool := let o := true; let z := false; #[o,o,o,o,o,o,o,o,o,z,z,z,z,z,z,z,z,z,z,z,z,z,z,z,z,z,z,z,z,z,z,z,z,z,z,z,z,z,z]
def q9_22 : Array Bool := let o := true; let z := false; #[o,o,o,o,o,o,o,o,o,z,z,z,o,z,z,z,z,z,z,z,z,z,z,z,z,z,z,z,z,z,z,z,z,z,z,z,z,z,z]
def q9_23 : Array Bool := let o := true; let z := false; #[o,o,o,o,o,o,o,o,o,o,z,z,o,z,z,z,z,z,z,z,z,z,z,z,z,z,z,z,z,z,z,z,z,z,z,z,z,z,z]
def q9_24 : Array Bool := let o := true; let z := false; #[o,o,o,o,o,o,o,o,o,o,o,z,o,z,z,z,z,z,z,z,z,z,z,z,z,z,z,z,z,z,z,z,z,z,z,z,z,z,z]
def q9_25 : Array Bool := let o := true; let z := false; #[o,o,o,o,o,o,o,o,o,o,o,o,o,z,z,z,z,z,z,z,z,z,z,z,z,z,z,z,z,z,z,z,z,z,z,z,z,z,z]
def q9_26 : Array Bool := let o := true; let z := false; #[o,o,o,o,o,o,o,o,o,o,o,o,o,o,z,z,z,z,z,z,z,z,z,z,z,z,z,z,z,z,z,z,z,z,z,z,z,z,z]
def q9_27 : Array Bool := let o := true; let z := false; #[o,o,o,o,o,o,o,o,o,o,o,o,o,o,o,z,z,z,z,z,z,z,z,z,z,z,z,z,z,z,z,z,z,z,z,z,z,z,z]
def q9_28 : Array Bool := let o := true; let z := false; #[o,o,o,o,o,o,o,o,o,o,o,o,o,o,o,o,z,z,z,z,z,z,z,z,z,z,z,z,z,z,z,z,z,z,z,z,z,z,z]
def q9_29 : Array Bool := let o := true; let z := false; #[o,o,o,o,o,o,o,o,o,o,o,o,o,o,o,o,o,z,z,z,z,z,z,z,z,z,z,z,z,z,z,z,z,z,z,z,z,z,z]
def q9_30 : Array Bool := let o := true; let z := false; #[o,o,o,o,o,o,o,o,o,o,o,o,o,o,o,o,o,o,z,z,z,z,z,z,z,z,z,z,z,z,z,z,z,z,z,z,z,z,z]
def q9_31 : Array Bool := let o := true; let z := false; #[o,o,o,o,o,o,o,o,o,o,o,o,o,o,o,o,o,o,o,z,z,z,z,z,z,z,z,z,z,z,z,z,z,z,z,z,z,z,z]
def q9_32 : Array Bool := let o := true; let z := false; #[o,o,o,o,o,o,o,o,o,o,o,o,o,o,o,o,o,o,o,z,o,z,z,z,z,z,z,z,z,z,z,z,z,z,z,z,z,z,z]
def q9_33 : Array Bool := let o := true; let z := false; #[o,o,o,o,o,o,o,o,o,o,o,o,o,o,o,o,o,o,o,o,o,z,z,z,z,z,z,z,z,z,z,z,z,z,z,z,z,z,z]
def q9_34 : Array Bool := let o := true; let z := false; #[o,o,o,o,o,o,o,o,o,o,o,o,o,o,o,o,o,o,o,o,o,o,z,z,z,z,z,z,z,z,z,z,z,z,z,z,z,z,z]
def q9_35 : Array Bool := let o := true; let z := false; #[o,o,o,o,o,o,o,o,o,o,o,o,o,o,o,o,o,o,o,o,o,o,o,z,z,z,z,z,z,z,z,z,z,z,z,z,z,z,z]
def q9_36 : Array Bool := let o := true; let z := false; #[o,o,o,o,o,o,o,o,o,o,o,o,o,o,o,o,o,o,o,o,o,o,o,o,z,z,z,z,z,z,z,z,z,z,z,z,z,z,z]
def q9_37 : Array Bool := let o := true; let z := false; #[o,o,o,o,o,o,o,o,o,o,o,o,o,o,o,o,o,o,o,o,o,o,o,o,o,z,z,z,z,z,z,z,z,z,z,z,z,z,z]
def q9_38 : Array Bool := let o := true; let z := false; #[o,o,o,o,o,o,o,o,o,o,o,o,o,o,o,o,o,o,o,o,o,o,o,o,o,o,z,z,z,z,z,z,z,z,z,z,z,z,z]
def q9_39 : Array Bool := let o := true; let z := false; #[o,o,o,o,o,o,o,o,o,o,o,o,o,o,o,o,o,o,o,o,o,o,o,o,o,o,o,z,z,z,z,z,z,z,z,z,z,z,z]
def q9_40 : Array Bool := let o := true; let z := false; #[o,o,o,o,o,o,o,o,o,o,o,o,o,o,o,o,o,o,o,o,o,o,o,o,o,o,o,z,z,z,o,z,z,z,z,z,z,z,z]
def q9_41 : Array Bool := let o := true; let z := false; #[o,o,o,o,o,o,o,o,o,o,o,o,o,o,o,o,o,o,o,o,o,o,o,o,o,o,o,z,z,z,o,o,z,z,z,z,z,z,z]
def q9_42 : Array Bool := let o := true; let z := false; #[o,o,o,o,o,o,o,o,o,o,o,o,o,o,o,o,o,o,o,o,o,o,o,o,o,o,o,z,z,z,o,o,o,z,z,z,z,z,z]
def q9_43 : Array Bool := let o := true; let z := false; #[o,o,o,o,o,o,o,o,o,o,o,o,o,o,o,o,o,o,o,o,o,o,o,o,o,o,o,o,z,z,o,o,o,z,z,z,z,z,z]
def q9_44 : Array Bool := let o := true; let z := false; #[o,o,o,o,o,o,o,o,o,o,o,o,o,o,o,o,o,o,o,o,o,o,o,o,o,o,o,o,o,z,o,o,o,z,z,z,z,z,z]
def q9_45 : Array Bool := let o := true; let z := false; #[o,o,o,o,o,o,o,o,o,o,o,o,o,o,o,o,o,o,o,o,o,o,o,o,o,o,o,o,o,o,o,o,o,z,z,z,z,z,z]
def q9_46 : Array Bool := let o := true; let z := false; #[o,o,o,o,o,o,o,o,o,o,o,o,o,o,o,o,o,o,o,o,o,o,o,o,o,o,o,o,o,o,o,o,o,o,z,z,z,z,z]
def q9_47 : Array Bool := let o := true; let z := false; #[o,o,o,o,o,o,o,o,o,o,o,o,o,o,o,o,o,o,o,o,o,o,o,o,o,o,o,o,o,o,o,o,o,o,o,z,z,z,z]
def q9_48 : Array Bool := let o := true; let z := false; #[o,o,o,o,o,o,o,o,o,o,o,o,o,o,o,o,o,o,o,o,o,o,o,o,o,o,o,o,o,o,o,o,o,o,o,o,z,z,z]
def q9_49 : Array Bool := let o := true; let z := false; #[o,o,o,o,o,o,o,o,o,o,o,o,o,o,o,o,o,o,o,o,o,o,o,o,o,o,o,o,o,o,o,o,o,o,o,o,o,z,z]
def q9_50 : Array Bool := let o := true; let z := false; #[o,o,o,o,o,o,o,o,o,o,o,o,o,o,o,o,o,o,o,o,o,o,o,o,o,o,o,o,o,o,o,o,o,o,o,o,o,o,z]
def q9_51 : Array Bool := let o := true; let z := false; #[o,o,o,o,o,o,o,o,o,o,o,o,o,o,o,o,o,o,o,o,o,o,o,o,o,o,o,o,o,o,o,o,o,o,o,o,o,o,o]
/-! ### shuttlecocklaw04_EventLen: function 5 -/
mutual
def shuttlecocklaw04_EventLen.j0 : Nat → Int → ByteArray → Bool → Int → Int → List Int → ByteArray → Option (Bool)
 | 0, _, _, _, _, _, _, _ => none
 | k + 1, x1, x5, x31, x293000, x293001, x293002, x293003 => if x31 = true then ((shuttlecocklaw04_fixed.f k).bind fun t299 => (some t299)) else ((shuttlecockref01_Len.f k x293001).bind fun t300 => (shuttlecocklaw04_EventLen.l0 k x1 x5 (wrap64 (1 + t300)) 0 x293000 x293001 x293002 x293003))
def shuttlecocklaw04_EventLen.l0 : Nat → Int → ByteArray → Int → Int → Int → Int → List Int → ByteArray → Option (Bool)
 | 0, _, _, _, _, _, _, _, _ => none
 | k + 1, x1, x5, x6, x7, x293000, x293001, x293002, x293003 => if x7 < (x293002.length : Int) then (if 0 ≤ x7 then ((shuttlecockref01_Len.f k (rd x293002 x7)).bind fun t302 => (shuttlecocklaw04_EventLen.l0 k x1 x5 (wrap64 (x6 + t302)) (wrap64 (x7 + 1)) x293000 x293001 x293002 x293003)) else (none)) else (if x293000 ≥ 128 then ((shuttlecockref01_Len.f k (x293003.size : Int)).bind fun t303 => (shuttlecocklaw04_EventLen.j2 k x1 x5 (wrap64 (x6 + (wrap64 (t303 + (x293003.size : Int))))) x293000 x293001 x293002 x293003)) else (shuttlecocklaw04_EventLen.j2 k x1 x5 x6 x293000 x293001 x293002 x293003))
def shuttlecocklaw04_EventLen.j2 : Nat → Int → ByteArray → Int → Int → Int → List Int → ByteArray → Option (Bool)
 | 0, _, _, _, _, _, _, _ => none
 | k + 1, x1, x5, x6, x293000, x293001, x293002, x293003 => (event_Encode.f k x293000 x1 x293002 x293003).bind fun t305 => (if (x5.size : Int) = x6 then ((shuttlecockref01_Len.f k x293001).bind fun t306 => ((shuttlecockref01_Len.f k x1).bind fun t307 => (if (t305.size : Int) = (wrap64 ((wrap64 (x6 - t306)) + t307)) then (if 0 < (t305.size : Int) then (if 0 < (x5.size : Int) then (if (bt t305 0) = (bt x5 0) then ((shuttlecockref01_Len.f k x1).bind fun t308 => (if 0 ≤ (wrap64 (1 + t308)) then (if (wrap64 (1 + t308)) ≤ (t305.size : Int) then ((shuttlecockref01_Len.f k x293001).bind fun t309 => (if 0 ≤ (wrap64 (1 + t309)) then (if (wrap64 (1 + t309)) ≤ (x5.size : Int) then (some ((t305.extract ((wrap64 (1 + t308)) : Int).toNat t305.size).toList == (x5.extract ((wrap64 (1 + t309)) : Int).toNat x5.size).toList)) else (none)) else (none))) else (none)) else (none))) else (none)) else (none)) else (none)) else (none)))) else (none))
end
def shuttlecocklaw04_EventLen.f (k : Nat) (a0_0 : Int) (a0_1 : Int) (l0_2 : List Int) (a0_3 : ByteArray) (a1 : Int) : Option (Bool) := (event_Encode.f k a0_0 a0_1 l0_2 a0_3).bind fun t293 => ((shuttlecocklaw04_fixed.f k).bind fun t294 => (if t294 = true then ((shuttlecockref04_Short.f k (([(⟨a0_0, a0_1, l0_2, a0_3⟩ : S24)] : List (S24)))).bind fun t298 => (if t298 = true then (if t293.toList = ([] : List UInt8) then (shuttlecocklaw04_EventLen.j0 k a1 t293 true a0_0 a0_1 l0_2 a0_3) else (if a1 < 0 then (shuttlecocklaw04_EventLen.j0 k a1 t293 true a0_0 a0_1 l0_2 a0_3) else (shuttlecocklaw04_EventLen.j0 k a1 t293 (decide (a1 ≥ 4611686018427387904)) a0_0 a0_1 l0_2 a0_3))) else (shuttlecocklaw04_EventLen.j0 k a1 t293 true a0_0 a0_1 l0_2 a0_3))) else (shuttlecocklaw04_EventLen.j0 k a1 t293 true a0_0 a0_1 l0_2 a0_3)))
theorem shuttlecocklaw04_EventLen.mono_l : ∀ k, (∀ y0 y1 y2 y3 y4 y5 y6, LeO (shuttlecocklaw04_EventLen.j0 k y0 y1 y2 y3 y4 y5 y6) (shuttlecocklaw04_EventLen.j0 (k + 1) y0 y1 y2 y3 y4 y5 y6)) ∧ (∀ y0 y1 y2 y3 y4 y5 y6 y7, LeO (shuttlecocklaw04_EventLen.l0 k y0 y1 y2 y3 y4 y5 y6 y7) (shuttlecocklaw04_EventLen.l0 (k + 1) y0 y1 y2 y3 y4 y5 y6 y7)) ∧ (∀ y0 y1 y2 y3 y4 y5 y6, LeO (shuttlecocklaw04_EventLen.j2 k y0 y1 y2 y3 y4 y5 y6) (shuttlecocklaw04_EventLen.j2 (k + 1) y0 y1 y2 y3 y4 y5 y6))
 | 0 => ⟨fun _ _ _ _ _ _ _ r h => by simp [shuttlecocklaw04_EventLen.j0] at h, fun _ _ _ _ _ _ _ _ r h => by simp [shuttlecocklaw04_EventLen.l0] at h, fun _ _ _ _ _ _ _ r h => by simp [shuttlecocklaw04_EventLen.j2] at h⟩
 | k + 1 => by
  obtain ⟨ih0, ih1, ih2⟩ := shuttlecocklaw04_EventLen.mono_l k
  refine ⟨?_, ?_, ?_⟩
  ·
   intro y0 y1 y2 y3 y4 y5 y6
   unfold shuttlecocklaw04_EventLen.j0
   repeat' first
   | (with_reducible exact ih0 _ _ _ _ _ _ _)
   | (with_reducible exact ih1 _ _ _ _ _ _ _ _)
   | (with_reducible exact ih2 _ _ _ _ _ _ _)
   | (with_reducible exact event_Encode.mono _ _ _ _ _)
   | (with_reducible exact shuttlecocklaw04_fixed.mono _)
   | (with_reducible exact shuttlecockref01_Len.mono _ _)
   | (with_reducible exact shuttlecockref04_Short.mono _ _)
   | (with_reducible exact LeO.refl _)
   | (with_reducible exact LeO.none _)
   | (with_reducible refine LeO.ite ?_ ?_)
   | (with_reducible refine LeO.bind ?_ (fun _ => ?_))
   | exact ih0 _ _ _ _ _ _ _
   | exact ih1 _ _ _ _ _ _ _ _
   | exact ih2 _ _ _ _ _ _ _
   | exact event_Encode.mono _ _ _ _ _
   | exact shuttlecocklaw04_fixed.mono _
   | exact shuttlecockref01_Len.mono _ _
   | exact shuttlecockref04_Short.mono _ _
   | exact LeO.none _
   | refine LeO.ite ?_ ?_
   | refine LeO.bind ?_ (fun _ => ?_)
  ·
   intro y0 y1 y2 y3 y4 y5 y6 y7
   unfold shuttlecocklaw04_EventLen.l0
   repeat' first
   | (with_reducible exact ih0 _ _ _ _ _ _ _)
   | (with_reducible exact ih1 _ _ _ _ _ _ _ _)
   | (with_reducible exact ih2 _ _ _ _ _ _ _)
   | (with_reducible exact event_Encode.mono _ _ _ _ _)
   | (with_reducible exact shuttlecocklaw04_fixed.mono _)
   | (with_reducible exact shuttlecockref01_Len.mono _ _)
   | (with_reducible exact shuttlecockref04_Short.mono _ _)
   | (with_reducible exact LeO.refl _)
   | (with_reducible exact LeO.none _)
   | (with_reducible refine LeO.ite ?_ ?_)
   | (with_reducible refine LeO.bind ?_ (fun _ => ?_))
   | exact ih0 _ _ _ _ _ _ _
   | exact ih1 _ _ _ _ _ _ _ _
   | exact ih2 _ _ _ _ _ _ _
   | exact event_Encode.mono _ _ _ _ _
   | exact shuttlecocklaw04_fixed.mono _
   | exact shuttlecockref01_Len.mono _ _
   | exact shuttlecockref04_Short.mono _ _
   | exact LeO.none _
   | refine LeO.ite ?_ ?_
   | refine LeO.bind ?_ (fun _ => ?_)
  ·
   intro y0 y1 y2 y3 y4 y5 y6
   unfold shuttlecocklaw04_EventLen.j2
   repeat' first
   | (with_reducible exact ih0 _ _ _ _ _ _ _)
   | (with_reducible exact ih1 _ _ _ _ _ _ _ _)
   | (with_reducible exact ih2 _ _ _ _ _ _ _)
   | (with_reducible exact event_Encode.mono _ _ _ _ _)
   | (with_reducible exact shuttlecocklaw04_fixed.mono _)
   | (with_reducible exact shuttlecockref01_Len.mono _ _)
   | (with_reducible exact shuttlecockref04_Short.mono _ _)
   | (with_reducible exact LeO.refl _)
   | (with_reducible exact LeO.none _)
   | (with_reducible refine LeO.ite ?_ ?_)
   | (with_reducible refine LeO.bind ?_ (fun _ => ?_))
   | exact ih0 _ _ _ _ _ _ _
   | exact ih1 _ _ _ _ _ _ _ _
   | exact ih2 _ _ _ _ _ _ _
   | exact event_Encode.mono _ _ _ _ _
   | exact shuttlecocklaw04_fixed.mono _
   | exact shuttlecockref01_Len.mono _ _
   | exact shuttlecockref04_Short.mono _ _
   | exact LeO.none _
   | refine LeO.ite ?_ ?_
   | refine LeO.bind ?_ (fun _ => ?_)
theorem shuttlecocklaw04_EventLen.mono : ∀ a0 a1 a2 a3 a4 k, LeO (shuttlecocklaw04_EventLen.f k a0 a1 a2 a3 a4) (shuttlecocklaw04_EventLen.f (k + 1) a0 a1 a2 a3 a4) := by
 intro a0 a1 a2 a3 a4 k
 obtain ⟨ih0, ih1, ih2⟩ := shuttlecocklaw04_EventLen.mono_l k
 unfold shuttlecocklaw04_EventLen.f
 repeat' first
   | (with_reducible exact ih0 _ _ _ _ _ _ _)
   | (with_reducible exact ih1 _ _ _ _ _ _ _ _)
   | (with_reducible exact ih2 _ _ _ _ _ _ _)
   | (with_reducible exact event_Encode.mono _ _ _ _ _)
   | (with_reducible exact shuttlecocklaw04_fixed.mono _)
   | (with_reducible exact shuttlecockref01_Len.mono _ _)
   | (with_reducible exact shuttlecockref04_Short.mono _ _)
   | (with_reducible exact LeO.refl _)
   | (with_reducible exact LeO.none _)
   | (with_reducible refine LeO.ite ?_ ?_)
   | (with_reducible refine LeO.bind ?_ (fun _ => ?_))
   | exact ih0 _ _ _ _ _ _ _
   | exact ih1 _ _ _ _ _ _ _ _
   | exact ih2 _ _ _ _ _ _ _
   | exact event_Encode.mono _ _ _ _ _
   | exact shuttlecocklaw04_fixed.mono _
   | exact shuttlecockref01_Len.mono _ _
   | exact shuttlecockref04_Short.mono _ _
   | exact LeO.none _
   | refine LeO.ite ?_ ?_
   | refine LeO.bind ?_ (fun _ => ?_)
def shuttlecocklaw04_EventLen.T10 : Bool × List (List Nat × List Nat) := (true, [([], []), ([], []), ([1], [1]), ([2], [2]), ([3], [3]), ([], []), ([5], [5]), ([6], [6]), ([4, 7], [4, 7]), ([0, 8], [0, 8]), ([9, 4, 0, 1, 2, 3, 4, 5, 6, 7, 8, 9], [0, 9])])
def shuttlecocklaw04_EventLen.B10 : List Nat := [0, 0, 2, 6, 14, 0, 32, 96, 254, 511, 1023]
theorem shuttlecocklaw04_EventLen.tab10 : rtab .any (opsOf Try.f5 10) = shuttlecocklaw04_EventLen.T10 := by kernel_rfl
theorem shuttlecocklaw04_EventLen.bits10 : waitsOk shuttlecocklaw04_EventLen.T10.2 shuttlecocklaw04_EventLen.B10 = true := by kernel_rfl
def shuttlecocklaw04_EventLen.T14 : Bool × List (List Nat × List Nat) := (true, [([], []), ([0], [0]), ([], []), ([1, 2], [1, 2]), ([3], [3]), ([4], [4]), ([5, 4], [4, 5]), ([4], [4]), ([4], [4]), ([8, 4], [4, 8]), ([9, 4, 4], [4, 9]), ([7, 10, 4], [4, 7, 10]), ([4], [4]), ([12, 10, 4], [4, 12]), ([11, 13, 4], [4, 11, 13]), ([6, 14, 4], [4, 6, 14]), ([4, 15], [4, 15]), ([16, 13], [16]), ([17], [17]), ([18, 17], [17, 18]), ([17], [17]), ([20, 17], [17, 20]), ([19, 21, 17], [17, 19, 21]), ([17, 22], [17, 22]), ([23, 17], [23]), ([24], [24]), ([24], [24]), ([26, 24, 24], [24, 26]), ([27, 24], [24, 27]), ([25, 28, 24], [24, 25, 28]), ([24], [24]), ([24], [24]), ([31, 24], [24, 31]), ([32, 27, 24], [24, 32]), ([33, 24], [24, 33]), ([30, 34, 24], [24, 30, 34]), ([29, 35, 24], [24, 29, 35]), ([24, 36], [24, 36]), ([37, 33, 0, 1, 2, 3, 4, 5, 6, 7, 8, 9, 10, 11, 12, 13, 14, 15, 16, 17, 18, 19, 20, 21, 22, 23, 24, 25, 26, 27, 28, 29, 30, 31, 32, 33, 34, 35, 36, 37], [37])])
def shuttlecocklaw04_EventLen.B14 : List Nat := [0, 1, 0, 7, 15, 31, 63, 31, 31, 287, 799, 1951, 31, 5919, 16287, 32767, 65535, 131071, 262143, 524287, 262143, 1310719, 4194303, 8388607, 16777215, 33554431, 33554431, 100663295, 234881023, 536870911, 33554431, 33554431, 2181038079, 6677331967, 15267266559, 33520877567, 68719476735, 137438953471, 274877906943]
theorem shuttlecocklaw04_EventLen.tab14 : rtab .any (opsOf Try.f5 14) = shuttlecocklaw04_EventLen.T14 := by kernel_rfl
theorem shuttlecocklaw04_EventLen.bits14 : waitsOk shuttlecocklaw04_EventLen.T14.2 shuttlecocklaw04_EventLen.B14 = true := by kernel_rfl
set_option maxHeartbeats 8000000 in
set_option maxRecDepth 100000 in
theorem shuttlecocklaw04_EventLen.calls (k : Nat) (a0_0 : Int) (a0_1 : Int) (P0_2_ : Nat → Prop) (A0_2 : Option Addr) (c0_2 : Nat) (l0_2 : List Int) (a0_3 : ByteArray) (a1 : Int) (r : Bool) (w : World) (hs0_2 : Kd.V (Kd.int .i64) 3 w w.heap.size (fun k_ => P0_2_ k_) (.slice A0_2 l0_2.length c0_2) l0_2) (h : shuttlecocklaw04_EventLen.f k a0_0 a0_1 l0_2 a0_3 a1 = some r) :
  Calls Try.prog 5 #[.agg #[.int .i64 a0_0, .int .i64 a0_1, .slice A0_2 l0_2.length c0_2, .string a0_3], .int .i64 a1] w fun e w' => e = .returned (.bool r) ∧ Below w.heap.size w w' := by
 have hu24 := Try.underlying24
 have HO0_2 := Am (show Kd.V (Kd.int .i64) 3 w w.heap.size (fun k_ => (P0_2_ k_ ∨ w.heap.size ≤ k_)) (.slice A0_2 l0_2.length c0_2) l0_2 from Kd.V_mono hs0_2 (fun k_ hk => .inl hk))
 have HB := Am (Below.refl w.heap.size w)
 have H : ((event_Encode.f k a0_0 a0_1 l0_2 a0_3).bind fun t293 => ((shuttlecocklaw04_fixed.f k).bind fun t294 => (if t294 = true then ((shuttlecockref04_Short.f k (([(⟨a0_0, a0_1, l0_2, a0_3⟩ : S24)] : List (S24)))).bind fun t298 => (if t298 = true then (if t293.toList = ([] : List UInt8) then (shuttlecocklaw04_EventLen.j0 k a1 t293 true a0_0 a0_1 l0_2 a0_3) else (if a1 < 0 then (shuttlecocklaw04_EventLen.j0 k a1 t293 true a0_0 a0_1 l0_2 a0_3) else (shuttlecocklaw04_EventLen.j0 k a1 t293 (decide (a1 ≥ 4611686018427387904)) a0_0 a0_1 l0_2 a0_3))) else (shuttlecocklaw04_EventLen.j0 k a1 t293 true a0_0 a0_1 l0_2 a0_3))) else (shuttlecocklaw04_EventLen.j0 k a1 t293 true a0_0 a0_1 l0_2 a0_3)))) = some r := h
 clear h
 replace H := ob H
 obtain ⟨t293, A30, H⟩ := H
 replace H : ((shuttlecocklaw04_fixed.f k).bind fun t294 => (if t294 = true then ((shuttlecockref04_Short.f k (([(⟨a0_0, a0_1, l0_2, a0_3⟩ : S24)] : List (S24)))).bind fun t298 => (if t298 = true then (if t293.toList = ([] : List UInt8) then (shuttlecocklaw04_EventLen.j0 k a1 t293 true a0_0 a0_1 l0_2 a0_3) else (if a1 < 0 then (shuttlecocklaw04_EventLen.j0 k a1 t293 true a0_0 a0_1 l0_2 a0_3) else (shuttlecocklaw04_EventLen.j0 k a1 t293 (decide (a1 ≥ 4611686018427387904)) a0_0 a0_1 l0_2 a0_3))) else (shuttlecocklaw04_EventLen.j0 k a1 t293 true a0_0 a0_1 l0_2 a0_3))) else (shuttlecocklaw04_EventLen.j0 k a1 t293 true a0_0 a0_1 l0_2 a0_3))) = some r := H
 have A3 := Am A30
 clear A30
 have HC4 := Am H
 clear H
 go_enter Try.func5, Try.ntmps5
 go_upto_region 2 with (first | ((with_reducible refine gate_dst (N := 2) rfl ?_); (try (refine gate_guard (by rfl) ?_; dsimp only)); refine box_event ?hg (N := 2) ?hd (cs := #[.int .i64 a0_0, .int .i64 a0_1, .slice A0_2 l0_2.length c0_2, .string a0_3]) (t := 24) ?hr ?_; (case hd => rfl); (case hg => rfl); (case hr => first | (go_simp; done) | (go_simp; rfl)); intro gb292 hg w5 hbox hb; have n0_ := Am (Kd.V_below (Kd.V_elderB (by (with_reducible repeat (first | apply Kd.V_alloc | apply Kd.V_drewN | apply Kd.V_drew)); exact HO0_2.out) gb292 (Nat.le_of_eq hg.symm)) hb); have n1_ := Am (below_step (by repeat (first | (with_reducible first | exact HB.out | apply bl | apply pN | apply b1) | exact HB.out | exact HBo.out)) hb); have n2_ := Am (hbox); have n3_ := Am ((by rw [hg]; exact (below_size (by repeat (first | (with_reducible first | exact HB.out | apply bl | apply pN | apply b1) | exact HB.out | exact HBo.out))) : w.heap.size ≤ gb292)); have n4_ := Am ((by rw [hg]; exact (below_size (by repeat (first | (with_reducible first | exact HB.out | apply bl | apply pN | apply b1) | exact HB.out | exact HBo.out))) : w.heap.size ≤ gb292)); clear HO0_2; clear HB; have HO0_2 := n0_; have HB := n1_; have BK292 := n2_; have GW292 := n3_; have GE292 := n4_; clear n0_ n1_ n2_ n3_ n4_; clear hb hbox hg; have hcz6_0 : w5.cell? ⟨gb292, 0, none⟩ = some (.int .i64 a0_0) := (bc BK292.out 0).trans rfl; have hcz6_1 : w5.cell? ⟨gb292, 1, none⟩ = some (.int .i64 a0_1) := (bc BK292.out 1).trans rfl; have hcz6_2 : w5.cell? ⟨gb292, 2, none⟩ = some (.slice A0_2 l0_2.length c0_2) := (bc BK292.out 2).trans rfl; have hcz6_3 : w5.cell? ⟨gb292, 3, none⟩ = some (.string a0_3) := (bc BK292.out 3).trans rfl; have hfz6_0 := bf BK292.out 0; have hfz6_1 := bf BK292.out 1; have hfz6_2 := bf BK292.out 2; have hfz6_3 := bf BK292.out 3) | ((with_reducible refine gate_callee (f := 14) rfl ?_); refine goesL_ (some 11) rfl rfl Try.func14 (by kernel_rfl) rfl #[.agg #[.int .i64 a0_0, .int .i64 a0_1, .slice A0_2 l0_2.length c0_2, .string a0_3]] rfl (by (try simp only [List.map_toArray, List.map_cons, List.map_nil]); first | done | rfl | (simp only [List.length_drop, List.length_take]; rfl)) ?_; (with_reducible refine (event_Encode.calls k a0_0 a0_1 _ _ l0_2 a0_3 t293 _ ?side1 ?side2 A3.out).mono ?_); (case side1 => repeat (first | exact (Kd.V_reads' HO0_2.out).2.2 | (with_reducible refine Kd.C_alloc ?_ _) | (with_reducible refine Kd.C_drewN ?_ _) | (with_reducible refine Kd.C_drew ?_))); (case side2 => exact (Kd.V_reads' HO0_2.out).2.1); rintro e w7 ⟨rfl, hb⟩; refine ⟨_, rfl, ?_⟩; have n0_ := Am (Kd.V_below (by (with_reducible repeat (first | apply Kd.V_alloc | apply Kd.V_drewN | apply Kd.V_drew)); exact HO0_2.out) hb); have n1_ := Am (blk_below (g := gb292) (o := .cells #[.int .i64 a0_0, .int .i64 a0_1, .slice A0_2 l0_2.length c0_2, .string a0_3] 24 (0, 0)) (by (with_reducible repeat (first | refine bn ?_ _ | refine bd ?_ | refine ba ?_ _)); exact BK292.out) hb); have n2_ := Am (below_step (by repeat (first | (with_reducible first | exact HB.out | apply bl | apply pN | apply b1 | refine bs ?_ GE292.out) | exact HB.out | exact HBo.out)) hb); clear HO0_2; clear BK292; clear HB; have HO0_2 := n0_; have BK292 := n1_; have HB := n2_; clear n0_ n1_ n2_; (try clear hb); (try clear hb2); (try clear hk); (try clear hi)))
 (try simp only [Act.put, sI, sZ, sS])
 go_cut [31] (fun v31 wc => ∃ (kq : Nat) (x31_3 : Bool), v31 = .bool x31_3 ∧ Aside0 (shuttlecocklaw04_EventLen.j0 kq a1 t293 x31_3 a0_0 a0_1 l0_2 a0_3 = some r) ∧ Aside0 (kq ≤ k) ∧ Aside0 (Kd.V (Kd.int .i64) 3 wc w.heap.size (fun k_ => (P0_2_ k_ ∨ w.heap.size ≤ k_) ∧ k_ ≠ gb292) (.slice A0_2 l0_2.length c0_2) l0_2) ∧ Aside0 (wc.heap[gb292]? = some (.cells #[.int .i64 a0_0, .int .i64 a0_1, (.slice A0_2 l0_2.length c0_2), .string a0_3] 24 (0, 0))) ∧ Aside0 (Below w.heap.size w wc))
 case first =>
  have H := HC4.out
  clear HC4
  replace H := ob H
  obtain ⟨t294, A80, H⟩ := H
  replace H : (if t294 = true then ((shuttlecockref04_Short.f k (([(⟨a0_0, a0_1, l0_2, a0_3⟩ : S24)] : List (S24)))).bind fun t298 => (if t298 = true then (if t293.toList = ([] : List UInt8) then (shuttlecocklaw04_EventLen.j0 k a1 t293 true a0_0 a0_1 l0_2 a0_3) else (if a1 < 0 then (shuttlecocklaw04_EventLen.j0 k a1 t293 true a0_0 a0_1 l0_2 a0_3) else (shuttlecocklaw04_EventLen.j0 k a1 t293 (decide (a1 ≥ 4611686018427387904)) a0_0 a0_1 l0_2 a0_3))) else (shuttlecocklaw04_EventLen.j0 k a1 t293 true a0_0 a0_1 l0_2 a0_3))) else (shuttlecocklaw04_EventLen.j0 k a1 t293 true a0_0 a0_1 l0_2 a0_3)) = some r := H
  have A8 := Am A80
  clear A80
  by_cases c9 : t294 = true
  ·
   subst c9
   have H1 : ((shuttlecockref04_Short.f k (([(⟨a0_0, a0_1, l0_2, a0_3⟩ : S24)] : List (S24)))).bind fun t298 => (if t298 = true then (if t293.toList = ([] : List UInt8) then (shuttlecocklaw04_EventLen.j0 k a1 t293 true a0_0 a0_1 l0_2 a0_3) else (if a1 < 0 then (shuttlecocklaw04_EventLen.j0 k a1 t293 true a0_0 a0_1 l0_2 a0_3) else (shuttlecocklaw04_EventLen.j0 k a1 t293 (decide (a1 ≥ 4611686018427387904)) a0_0 a0_1 l0_2 a0_3))) else (shuttlecocklaw04_EventLen.j0 k a1 t293 true a0_0 a0_1 l0_2 a0_3))) = some r := by rw [if_pos rfl] at H; exact H
   clear H
   have H := H1
   clear H1
   obtain ⟨y295, hy295⟩ : ∃ y_ : List (S24), y_ = (([(⟨a0_0, a0_1, l0_2, a0_3⟩ : S24)] : List (S24))) := ⟨_, rfl⟩
   replace H : ((shuttlecockref04_Short.f k y295).bind fun t298 => (if t298 = true then (if t293.toList = ([] : List UInt8) then (shuttlecocklaw04_EventLen.j0 k a1 t293 true a0_0 a0_1 l0_2 a0_3) else (if a1 < 0 then (shuttlecocklaw04_EventLen.j0 k a1 t293 true a0_0 a0_1 l0_2 a0_3) else (shuttlecocklaw04_EventLen.j0 k a1 t293 (decide (a1 ≥ 4611686018427387904)) a0_0 a0_1 l0_2 a0_3))) else (shuttlecocklaw04_EventLen.j0 k a1 t293 true a0_0 a0_1 l0_2 a0_3))) = some r := by first | (rw [hy295]; with_reducible exact H) | (have H2_ := (Option.bind_some _ _).symm.trans H; rw [hy295]; with_reducible exact H2_) | (have H2_ := (Option.bind_some _ _).symm.trans H; with_reducible exact H2_) | with_reducible exact H | (rw [hy295]; exact H) | exact H
   have Ny295 := Am hy295
   clear hy295
   replace H := ob H
   obtain ⟨t298, A100, H⟩ := H
   replace H : (if t298 = true then (if t293.toList = ([] : List UInt8) then (shuttlecocklaw04_EventLen.j0 k a1 t293 true a0_0 a0_1 l0_2 a0_3) else (if a1 < 0 then (shuttlecocklaw04_EventLen.j0 k a1 t293 true a0_0 a0_1 l0_2 a0_3) else (shuttlecocklaw04_EventLen.j0 k a1 t293 (decide (a1 ≥ 4611686018427387904)) a0_0 a0_1 l0_2 a0_3))) else (shuttlecocklaw04_EventLen.j0 k a1 t293 true a0_0 a0_1 l0_2 a0_3)) = some r := H
   have A10 := Am A100
   clear A100
   by_cases c11 : t298 = true
   ·
    subst c11
    have H1 : (if t293.toList = ([] : List UInt8) then (shuttlecocklaw04_EventLen.j0 k a1 t293 true a0_0 a0_1 l0_2 a0_3) else (if a1 < 0 then (shuttlecocklaw04_EventLen.j0 k a1 t293 true a0_0 a0_1 l0_2 a0_3) else (shuttlecocklaw04_EventLen.j0 k a1 t293 (decide (a1 ≥ 4611686018427387904)) a0_0 a0_1 l0_2 a0_3))) = some r := by rw [if_pos rfl] at H; exact H
    clear H
    have H := H1
    clear H1
    by_cases c12 : t293.toList = ([] : List UInt8)
    ·
     rw [if_pos c12] at H
     have c12b0 : (t293.toList == ([] : List UInt8)) = true := beq_iff_eq.mpr c12
     try have c12b9 : (t293.toList).isEmpty = true := List.isEmpty_iff.2 c12
     have c12b1 : (t293.toList != ([] : List UInt8)) = false := bne_eq_false_iff_eq.mpr c12
     clear c12
     (first | rw [c12b0] | rw [c12b9] | (simp only [i64_w, i32_w]; rw [c12b0]) | skip)
     have H' := Am H
     clear H
     go_wp2_with (first | ((with_reducible refine gate_callee (f := 9) rfl ?_); refine goesL_ (some 12) rfl rfl Try.func9 (by kernel_rfl) rfl #[] rfl (by (try simp only [List.map_toArray, List.map_cons, List.map_nil]); first | done | rfl | (simp only [List.length_drop, List.length_take]; rfl)) ?_; (with_reducible refine (shuttlecocklaw04_fixed.calls k  true _ A8.out).mono ?_); rintro e w13 ⟨rfl, hb⟩; refine ⟨_, rfl, ?_⟩; have n0_ := Am (Kd.V_below (by (with_reducible repeat (first | apply Kd.V_alloc | apply Kd.V_drewN | apply Kd.V_drew)); exact HO0_2.out) hb); have n1_ := Am (blk_below (g := gb292) (o := .cells #[.int .i64 a0_0, .int .i64 a0_1, .slice A0_2 l0_2.length c0_2, .string a0_3] 24 (0, 0)) (by (with_reducible repeat (first | refine bn ?_ _ | refine bd ?_ | refine ba ?_ _)); exact BK292.out) hb); have n2_ := Am (below_step (by repeat (first | (with_reducible first | exact HB.out | apply bl | apply pN | apply b1 | refine bs ?_ GE292.out) | exact HB.out | exact HBo.out)) hb); clear HO0_2; clear BK292; clear HB; have HO0_2 := n0_; have BK292 := n1_; have HB := n2_; clear n0_ n1_ n2_; (try clear hb); (try clear hb2); (try clear hk); (try clear hi); have hcz14_0 : w13.cell? ⟨gb292, 0, none⟩ = some (.int .i64 a0_0) := (bc BK292.out 0).trans rfl; have hcz14_1 : w13.cell? ⟨gb292, 1, none⟩ = some (.int .i64 a0_1) := (bc BK292.out 1).trans rfl; have hcz14_2 : w13.cell? ⟨gb292, 2, none⟩ = some (.slice A0_2 l0_2.length c0_2) := (bc BK292.out 2).trans rfl; have hcz14_3 : w13.cell? ⟨gb292, 3, none⟩ = some (.string a0_3) := (bc BK292.out 3).trans rfl; have hfz14_0 := bf BK292.out 0; have hfz14_1 := bf BK292.out 1; have hfz14_2 := bf BK292.out 2; have hfz14_3 := bf BK292.out 3) | ((with_reducible refine gate_dst (N := 16) rfl ?_); (try (refine gate_guard (by rfl) ?_; dsimp only)); refine Kd.N_lit k24 _ 24 ?hg (N' := 16) ?hd (xs := ([(⟨a0_0, a0_1, l0_2, a0_3⟩ : S24)] : List (S24))) (inner := [.int .i64 a0_0, .int .i64 a0_1, .slice A0_2 l0_2.length c0_2, .string a0_3]) (ok := (fun k_ => (P0_2_ k_ ∨ w.heap.size ≤ k_) ∧ k_ ≠ gb292)) (okp := (fun k_ => (P0_2_ k_ ∨ w.heap.size ≤ k_) ∧ k_ ≠ gb292)) ?hr ?hp (fun _ hk => hk) ((show ∀ k_, w13.heap.size ≤ k_ → (fun k_ => (P0_2_ k_ ∨ w.heap.size ≤ k_) ∧ k_ ≠ gb292) k_ from fun k_ hk => ⟨(.inr (Nat.le_trans (below_size (by repeat (first | (with_reducible first | exact HB.out | apply bl | apply pN | apply b1 | refine bs ?_ GE292.out) | exact HB.out | exact HBo.out))) hk)), Kd.freshB (g := gb292) (o := .cells #[.int .i64 a0_0, .int .i64 a0_1, .slice A0_2 l0_2.length c0_2, .string a0_3] 24 (0, 0)) (by (with_reducible repeat (first | refine bn ?_ _ | refine bd ?_ | refine ba ?_ _)); exact BK292.out) k_ hk⟩) _ (Nat.le_refl _)) (Below.refl _ _) (Nat.le_refl _) (by simp) ?_; (case hd => rfl); (case hg => rfl); (case hr => first | (go_simp; done) | (go_simp; rfl)); (case hp => exact (Reps.c4 (show Kd.FK k24 _ _ (⟨a0_0, a0_1, l0_2, a0_3⟩ : S24) [.int .i64 a0_0, .int .i64 a0_1, .slice A0_2 l0_2.length c0_2, .string a0_3] from (k24_mkF _ _ (⟨a0_0, a0_1, l0_2, a0_3⟩ : S24) (Kd.V_reads' (Kd.V_mono (ok' := (fun k_ => (P0_2_ k_ ∨ w.heap.size ≤ k_) ∧ k_ ≠ gb292)) (HO0_2.out) (fun k_ hk => ⟨hk.1, hk.2⟩))).2.1 (Kd.V_F (Kd.V_mono (ok' := (fun k_ => (P0_2_ k_ ∨ w.heap.size ≤ k_) ∧ k_ ≠ gb292)) (HO0_2.out) (fun k_ hk => ⟨hk.1, hk.2⟩))))) (Reps.none _ _))); intro v296 w15 ho16 hb hg_ hnew_; clear hg_ hnew_; (first | rw [← Ny295.out] at ho16 | (simp only [Int.reduceToNat] at ho16; rw [← Ny295.out] at ho16)); have n0_ := Am (Kd.V_elder' (by (with_reducible repeat (first | apply Kd.V_alloc | apply Kd.V_drewN | apply Kd.V_drew)); exact HO0_2.out) (Kd.N_base ho16) hb); have n1_ := Am (Kd.N_lower ho16 (below_size (by repeat (first | (with_reducible first | exact HB.out | apply bl | apply pN | apply b1 | refine bs ?_ GE292.out) | exact HB.out | exact HBo.out)))); have n2_ := Am (blk_below (g := gb292) (o := .cells #[.int .i64 a0_0, .int .i64 a0_1, .slice A0_2 l0_2.length c0_2, .string a0_3] 24 (0, 0)) (by (with_reducible repeat (first | refine bn ?_ _ | refine bd ?_ | refine ba ?_ _)); exact BK292.out) hb); have n3_ := Am (below_step (by repeat (first | (with_reducible first | exact HB.out | apply bl | apply pN | apply b1 | refine bs ?_ GE292.out) | exact HB.out | exact HBo.out)) hb); clear HO0_2; clear BK292; clear HB; have HO0_2 := n0_; have HO297 := n1_; have BK292 := n2_; have HB := n3_; clear n0_ n1_ n2_ n3_; clear hb ho16; obtain ⟨Ao17, co17, eo17⟩ := Kd.N_slice HO297.out; subst eo17) | (go_at_call 8; (with_reducible refine (shuttlecockref04_Short.calls k _ _ y295 true _ ?side1 ?side2 A10.out).mono ?_); (case side1 => repeat (first | exact (Kd.N_reads' HO297.out).2.2 | (with_reducible refine Kd.C_alloc ?_ _) | (with_reducible refine Kd.C_drewN ?_ _) | (with_reducible refine Kd.C_drew ?_))); (case side2 => exact (Kd.N_reads' HO297.out).2.1); rintro e w' ⟨rfl, ⟨nd, rfl⟩⟩))
     go_meet
     case rel => exact ⟨_, (true), (by first | rfl | (simp; done) | (simp [*]; done)), H', ⟨by first | omega | exact Nat.le_refl _⟩, ⟨by (with_reducible repeat (first | apply Kd.V_alloc | apply Kd.V_drewN | apply Kd.V_drew)); exact Kd.V_mono HO0_2.out (fun _ hk => ⟨hk.1.1, hk.1.2⟩)⟩, ⟨by (with_reducible repeat (first | refine bn ?_ _ | refine bd ?_ | refine ba ?_ _)); exact BK292.out⟩, ⟨by repeat (first | (with_reducible first | exact HB.out | apply bl | apply pN | apply b1 | refine bs ?_ GE292.out) | exact HB.out | exact HBo.out)⟩⟩
    ·
     rw [if_neg c12] at H
     have c12b0 : (t293.toList == ([] : List UInt8)) = false := beq_eq_false_iff_ne.mpr c12
     try have c12b9 : (t293.toList).isEmpty = false := (by rw [List.isEmpty_eq_false_iff]; exact c12)
     have c12b1 : (t293.toList != ([] : List UInt8)) = true := bne_iff_ne.mpr c12
     (first | rw [c12b0] | rw [c12b9] | (simp only [i64_w, i32_w]; rw [c12b0]) | skip)
     by_cases c18 : a1 < 0
     ·
      rw [if_pos c18] at H
      have c18b0 : decide (a1 < 0) = true := decide_eq_true c18
      clear c18
      have H' := Am H
      clear H
      go_wp2_with (first | ((with_reducible refine gate_callee (f := 9) rfl ?_); refine goesL_ (some 12) rfl rfl Try.func9 (by kernel_rfl) rfl #[] rfl (by (try simp only [List.map_toArray, List.map_cons, List.map_nil]); first | done | rfl | (simp only [List.length_drop, List.length_take]; rfl)) ?_; (with_reducible refine (shuttlecocklaw04_fixed.calls k  true _ A8.out).mono ?_); rintro e w19 ⟨rfl, hb⟩; refine ⟨_, rfl, ?_⟩; have n0_ := Am (Kd.V_below (by (with_reducible repeat (first | apply Kd.V_alloc | apply Kd.V_drewN | apply Kd.V_drew)); exact HO0_2.out) hb); have n1_ := Am (blk_below (g := gb292) (o := .cells #[.int .i64 a0_0, .int .i64 a0_1, .slice A0_2 l0_2.length c0_2, .string a0_3] 24 (0, 0)) (by (with_reducible repeat (first | refine bn ?_ _ | refine bd ?_ | refine ba ?_ _)); exact BK292.out) hb); have n2_ := Am (below_step (by repeat (first | (with_reducible first | exact HB.out | apply bl | apply pN | apply b1 | refine bs ?_ GE292.out) | exact HB.out | exact HBo.out)) hb); clear HO0_2; clear BK292; clear HB; have HO0_2 := n0_; have BK292 := n1_; have HB := n2_; clear n0_ n1_ n2_; (try clear hb); (try clear hb2); (try clear hk); (try clear hi); have hcz20_0 : w19.cell? ⟨gb292, 0, none⟩ = some (.int .i64 a0_0) := (bc BK292.out 0).trans rfl; have hcz20_1 : w19.cell? ⟨gb292, 1, none⟩ = some (.int .i64 a0_1) := (bc BK292.out 1).trans rfl; have hcz20_2 : w19.cell? ⟨gb292, 2, none⟩ = some (.slice A0_2 l0_2.length c0_2) := (bc BK292.out 2).trans rfl; have hcz20_3 : w19.cell? ⟨gb292, 3, none⟩ = some (.string a0_3) := (bc BK292.out 3).trans rfl; have hfz20_0 := bf BK292.out 0; have hfz20_1 := bf BK292.out 1; have hfz20_2 := bf BK292.out 2; have hfz20_3 := bf BK292.out 3) | ((with_reducible refine gate_dst (N := 16) rfl ?_); (try (refine gate_guard (by rfl) ?_; dsimp only)); refine Kd.N_lit k24 _ 24 ?hg (N' := 16) ?hd (xs := ([(⟨a0_0, a0_1, l0_2, a0_3⟩ : S24)] : List (S24))) (inner := [.int .i64 a0_0, .int .i64 a0_1, .slice A0_2 l0_2.length c0_2, .string a0_3]) (ok := (fun k_ => (P0_2_ k_ ∨ w.heap.size ≤ k_) ∧ k_ ≠ gb292)) (okp := (fun k_ => (P0_2_ k_ ∨ w.heap.size ≤ k_) ∧ k_ ≠ gb292)) ?hr ?hp (fun _ hk => hk) ((show ∀ k_, w19.heap.size ≤ k_ → (fun k_ => (P0_2_ k_ ∨ w.heap.size ≤ k_) ∧ k_ ≠ gb292) k_ from fun k_ hk => ⟨(.inr (Nat.le_trans (below_size (by repeat (first | (with_reducible first | exact HB.out | apply bl | apply pN | apply b1 | refine bs ?_ GE292.out) | exact HB.out | exact HBo.out))) hk)), Kd.freshB (g := gb292) (o := .cells #[.int .i64 a0_0, .int .i64 a0_1, .slice A0_2 l0_2.length c0_2, .string a0_3] 24 (0, 0)) (by (with_reducible repeat (first | refine bn ?_ _ | refine bd ?_ | refine ba ?_ _)); exact BK292.out) k_ hk⟩) _ (Nat.le_refl _)) (Below.refl _ _) (Nat.le_refl _) (by simp) ?_; (case hd => rfl); (case hg => rfl); (case hr => first | (go_simp; done) | (go_simp; rfl)); (case hp => exact (Reps.c4 (show Kd.FK k24 _ _ (⟨a0_0, a0_1, l0_2, a0_3⟩ : S24) [.int .i64 a0_0, .int .i64 a0_1, .slice A0_2 l0_2.length c0_2, .string a0_3] from (k24_mkF _ _ (⟨a0_0, a0_1, l0_2, a0_3⟩ : S24) (Kd.V_reads' (Kd.V_mono (ok' := (fun k_ => (P0_2_ k_ ∨ w.heap.size ≤ k_) ∧ k_ ≠ gb292)) (HO0_2.out) (fun k_ hk => ⟨hk.1, hk.2⟩))).2.1 (Kd.V_F (Kd.V_mono (ok' := (fun k_ => (P0_2_ k_ ∨ w.heap.size ≤ k_) ∧ k_ ≠ gb292)) (HO0_2.out) (fun k_ hk => ⟨hk.1, hk.2⟩))))) (Reps.none _ _))); intro v296 w21 ho22 hb hg_ hnew_; clear hg_ hnew_; (first | rw [← Ny295.out] at ho22 | (simp only [Int.reduceToNat] at ho22; rw [← Ny295.out] at ho22)); have n0_ := Am (Kd.V_elder' (by (with_reducible repeat (first | apply Kd.V_alloc | apply Kd.V_drewN | apply Kd.V_drew)); exact HO0_2.out) (Kd.N_base ho22) hb); have n1_ := Am (Kd.N_lower ho22 (below_size (by repeat (first | (with_reducible first | exact HB.out | apply bl | apply pN | apply b1 | refine bs ?_ GE292.out) | exact HB.out | exact HBo.out)))); have n2_ := Am (blk_below (g := gb292) (o := .cells #[.int .i64 a0_0, .int .i64 a0_1, .slice A0_2 l0_2.length c0_2, .string a0_3] 24 (0, 0)) (by (with_reducible repeat (first | refine bn ?_ _ | refine bd ?_ | refine ba ?_ _)); exact BK292.out) hb); have n3_ := Am (below_step (by repeat (first | (with_reducible first | exact HB.out | apply bl | apply pN | apply b1 | refine bs ?_ GE292.out) | exact HB.out | exact HBo.out)) hb); clear HO0_2; clear BK292; clear HB; have HO0_2 := n0_; have HO297 := n1_; have BK292 := n2_; have HB := n3_; clear n0_ n1_ n2_ n3_; clear hb ho22; obtain ⟨Ao23, co23, eo23⟩ := Kd.N_slice HO297.out; subst eo23) | (go_at_call 8; (with_reducible refine (shuttlecockref04_Short.calls k _ _ y295 true _ ?side1 ?side2 A10.out).mono ?_); (case side1 => repeat (first | exact (Kd.N_reads' HO297.out).2.2 | (with_reducible refine Kd.C_alloc ?_ _) | (with_reducible refine Kd.C_drewN ?_ _) | (with_reducible refine Kd.C_drew ?_))); (case side2 => exact (Kd.N_reads' HO297.out).2.1); rintro e w' ⟨rfl, ⟨nd, rfl⟩⟩))
      go_meet
      case rel => exact ⟨_, (true), (by first | rfl | (simp; done) | (simp [*]; done)), H', ⟨by first | omega | exact Nat.le_refl _⟩, ⟨by (with_reducible repeat (first | apply Kd.V_alloc | apply Kd.V_drewN | apply Kd.V_drew)); exact Kd.V_mono HO0_2.out (fun _ hk => ⟨hk.1.1, hk.1.2⟩)⟩, ⟨by (with_reducible repeat (first | refine bn ?_ _ | refine bd ?_ | refine ba ?_ _)); exact BK292.out⟩, ⟨by repeat (first | (with_reducible first | exact HB.out | apply bl | apply pN | apply b1 | refine bs ?_ GE292.out) | exact HB.out | exact HBo.out)⟩⟩
     ·
      rw [if_neg c18] at H
      have c18b0 : decide (a1 < 0) = false := decide_eq_false c18
      clear c18
      have H' := Am H
      clear H
      go_wp2_with (first | ((with_reducible refine gate_callee (f := 9) rfl ?_); refine goesL_ (some 12) rfl rfl Try.func9 (by kernel_rfl) rfl #[] rfl (by (try simp only [List.map_toArray, List.map_cons, List.map_nil]); first | done | rfl | (simp only [List.length_drop, List.length_take]; rfl)) ?_; (with_reducible refine (shuttlecocklaw04_fixed.calls k  true _ A8.out).mono ?_); rintro e w24 ⟨rfl, hb⟩; refine ⟨_, rfl, ?_⟩; have n0_ := Am (Kd.V_below (by (with_reducible repeat (first | apply Kd.V_alloc | apply Kd.V_drewN | apply Kd.V_drew)); exact HO0_2.out) hb); have n1_ := Am (blk_below (g := gb292) (o := .cells #[.int .i64 a0_0, .int .i64 a0_1, .slice A0_2 l0_2.length c0_2, .string a0_3] 24 (0, 0)) (by (with_reducible repeat (first | refine bn ?_ _ | refine bd ?_ | refine ba ?_ _)); exact BK292.out) hb); have n2_ := Am (below_step (by repeat (first | (with_reducible first | exact HB.out | apply bl | apply pN | apply b1 | refine bs ?_ GE292.out) | exact HB.out | exact HBo.out)) hb); clear HO0_2; clear BK292; clear HB; have HO0_2 := n0_; have BK292 := n1_; have HB := n2_; clear n0_ n1_ n2_; (try clear hb); (try clear hb2); (try clear hk); (try clear hi); have hcz25_0 : w24.cell? ⟨gb292, 0, none⟩ = some (.int .i64 a0_0) := (bc BK292.out 0).trans rfl; have hcz25_1 : w24.cell? ⟨gb292, 1, none⟩ = some (.int .i64 a0_1) := (bc BK292.out 1).trans rfl; have hcz25_2 : w24.cell? ⟨gb292, 2, none⟩ = some (.slice A0_2 l0_2.length c0_2) := (bc BK292.out 2).trans rfl; have hcz25_3 : w24.cell? ⟨gb292, 3, none⟩ = some (.string a0_3) := (bc BK292.out 3).trans rfl; have hfz25_0 := bf BK292.out 0; have hfz25_1 := bf BK292.out 1; have hfz25_2 := bf BK292.out 2; have hfz25_3 := bf BK292.out 3) | ((with_reducible refine gate_dst (N := 16) rfl ?_); (try (refine gate_guard (by rfl) ?_; dsimp only)); refine Kd.N_lit k24 _ 24 ?hg (N' := 16) ?hd (xs := ([(⟨a0_0, a0_1, l0_2, a0_3⟩ : S24)] : List (S24))) (inner := [.int .i64 a0_0, .int .i64 a0_1, .slice A0_2 l0_2.length c0_2, .string a0_3]) (ok := (fun k_ => (P0_2_ k_ ∨ w.heap.size ≤ k_) ∧ k_ ≠ gb292)) (okp := (fun k_ => (P0_2_ k_ ∨ w.heap.size ≤ k_) ∧ k_ ≠ gb292)) ?hr ?hp (fun _ hk => hk) ((show ∀ k_, w24.heap.size ≤ k_ → (fun k_ => (P0_2_ k_ ∨ w.heap.size ≤ k_) ∧ k_ ≠ gb292) k_ from fun k_ hk => ⟨(.inr (Nat.le_trans (below_size (by repeat (first | (with_reducible first | exact HB.out | apply bl | apply pN | apply b1 | refine bs ?_ GE292.out) | exact HB.out | exact HBo.out))) hk)), Kd.freshB (g := gb292) (o := .cells #[.int .i64 a0_0, .int .i64 a0_1, .slice A0_2 l0_2.length c0_2, .string a0_3] 24 (0, 0)) (by (with_reducible repeat (first | refine bn ?_ _ | refine bd ?_ | refine ba ?_ _)); exact BK292.out) k_ hk⟩) _ (Nat.le_refl _)) (Below.refl _ _) (Nat.le_refl _) (by simp) ?_; (case hd => rfl); (case hg => rfl); (case hr => first | (go_simp; done) | (go_simp; rfl)); (case hp => exact (Reps.c4 (show Kd.FK k24 _ _ (⟨a0_0, a0_1, l0_2, a0_3⟩ : S24) [.int .i64 a0_0, .int .i64 a0_1, .slice A0_2 l0_2.length c0_2, .string a0_3] from (k24_mkF _ _ (⟨a0_0, a0_1, l0_2, a0_3⟩ : S24) (Kd.V_reads' (Kd.V_mono (ok' := (fun k_ => (P0_2_ k_ ∨ w.heap.size ≤ k_) ∧ k_ ≠ gb292)) (HO0_2.out) (fun k_ hk => ⟨hk.1, hk.2⟩))).2.1 (Kd.V_F (Kd.V_mono (ok' := (fun k_ => (P0_2_ k_ ∨ w.heap.size ≤ k_) ∧ k_ ≠ gb292)) (HO0_2.out) (fun k_ hk => ⟨hk.1, hk.2⟩))))) (Reps.none _ _))); intro v296 w26 ho27 hb hg_ hnew_; clear hg_ hnew_; (first | rw [← Ny295.out] at ho27 | (simp only [Int.reduceToNat] at ho27; rw [← Ny295.out] at ho27)); have n0_ := Am (Kd.V_elder' (by (with_reducible repeat (first | apply Kd.V_alloc | apply Kd.V_drewN | apply Kd.V_drew)); exact HO0_2.out) (Kd.N_base ho27) hb); have n1_ := Am (Kd.N_lower ho27 (below_size (by repeat (first | (with_reducible first | exact HB.out | apply bl | apply pN | apply b1 | refine bs ?_ GE292.out) | exact HB.out | exact HBo.out)))); have n2_ := Am (blk_below (g := gb292) (o := .cells #[.int .i64 a0_0, .int .i64 a0_1, .slice A0_2 l0_2.length c0_2, .string a0_3] 24 (0, 0)) (by (with_reducible repeat (first | refine bn ?_ _ | refine bd ?_ | refine ba ?_ _)); exact BK292.out) hb); have n3_ := Am (below_step (by repeat (first | (with_reducible first | exact HB.out | apply bl | apply pN | apply b1 | refine bs ?_ GE292.out) | exact HB.out | exact HBo.out)) hb); clear HO0_2; clear BK292; clear HB; have HO0_2 := n0_; have HO297 := n1_; have BK292 := n2_; have HB := n3_; clear n0_ n1_ n2_ n3_; clear hb ho27; obtain ⟨Ao28, co28, eo28⟩ := Kd.N_slice HO297.out; subst eo28) | (go_at_call 8; (with_reducible refine (shuttlecockref04_Short.calls k _ _ y295 true _ ?side1 ?side2 A10.out).mono ?_); (case side1 => repeat (first | exact (Kd.N_reads' HO297.out).2.2 | (with_reducible refine Kd.C_alloc ?_ _) | (with_reducible refine Kd.C_drewN ?_ _) | (with_reducible refine Kd.C_drew ?_))); (case side2 => exact (Kd.N_reads' HO297.out).2.1); rintro e w' ⟨rfl, ⟨nd, rfl⟩⟩))
      go_meet
      case rel => exact ⟨_, (decide (a1 ≥ 4611686018427387904)), (by first | rfl | (simp; done) | (simp [*]; done)), H', ⟨by first | omega | exact Nat.le_refl _⟩, ⟨by (with_reducible repeat (first | apply Kd.V_alloc | apply Kd.V_drewN | apply Kd.V_drew)); exact Kd.V_mono HO0_2.out (fun _ hk => ⟨hk.1.1, hk.1.2⟩)⟩, ⟨by (with_reducible repeat (first | refine bn ?_ _ | refine bd ?_ | refine ba ?_ _)); exact BK292.out⟩, ⟨by repeat (first | (with_reducible first | exact HB.out | apply bl | apply pN | apply b1 | refine bs ?_ GE292.out) | exact HB.out | exact HBo.out)⟩⟩
   ·
    replace c11 := Bool.eq_false_iff.mpr c11
    subst c11
    have H1 : (shuttlecocklaw04_EventLen.j0 k a1 t293 true a0_0 a0_1 l0_2 a0_3) = some r := by rw [if_neg (show ¬ (false = true) by decide)] at H; exact H
    clear H
    have H := H1
    clear H1
    have H' := Am H
    clear H
    go_wp2_with (first | ((with_reducible refine gate_callee (f := 9) rfl ?_); refine goesL_ (some 12) rfl rfl Try.func9 (by kernel_rfl) rfl #[] rfl (by (try simp only [List.map_toArray, List.map_cons, List.map_nil]); first | done | rfl | (simp only [List.length_drop, List.length_take]; rfl)) ?_; (with_reducible refine (shuttlecocklaw04_fixed.calls k  true _ A8.out).mono ?_); rintro e w29 ⟨rfl, hb⟩; refine ⟨_, rfl, ?_⟩; have n0_ := Am (Kd.V_below (by (with_reducible repeat (first | apply Kd.V_alloc | apply Kd.V_drewN | apply Kd.V_drew)); exact HO0_2.out) hb); have n1_ := Am (blk_below (g := gb292) (o := .cells #[.int .i64 a0_0, .int .i64 a0_1, .slice A0_2 l0_2.length c0_2, .string a0_3] 24 (0, 0)) (by (with_reducible repeat (first | refine bn ?_ _ | refine bd ?_ | refine ba ?_ _)); exact BK292.out) hb); have n2_ := Am (below_step (by repeat (first | (with_reducible first | exact HB.out | apply bl | apply pN | apply b1 | refine bs ?_ GE292.out) | exact HB.out | exact HBo.out)) hb); clear HO0_2; clear BK292; clear HB; have HO0_2 := n0_; have BK292 := n1_; have HB := n2_; clear n0_ n1_ n2_; (try clear hb); (try clear hb2); (try clear hk); (try clear hi); have hcz30_0 : w29.cell? ⟨gb292, 0, none⟩ = some (.int .i64 a0_0) := (bc BK292.out 0).trans rfl; have hcz30_1 : w29.cell? ⟨gb292, 1, none⟩ = some (.int .i64 a0_1) := (bc BK292.out 1).trans rfl; have hcz30_2 : w29.cell? ⟨gb292, 2, none⟩ = some (.slice A0_2 l0_2.length c0_2) := (bc BK292.out 2).trans rfl; have hcz30_3 : w29.cell? ⟨gb292, 3, none⟩ = some (.string a0_3) := (bc BK292.out 3).trans rfl; have hfz30_0 := bf BK292.out 0; have hfz30_1 := bf BK292.out 1; have hfz30_2 := bf BK292.out 2; have hfz30_3 := bf BK292.out 3) | ((with_reducible refine gate_dst (N := 16) rfl ?_); (try (refine gate_guard (by rfl) ?_; dsimp only)); refine Kd.N_lit k24 _ 24 ?hg (N' := 16) ?hd (xs := ([(⟨a0_0, a0_1, l0_2, a0_3⟩ : S24)] : List (S24))) (inner := [.int .i64 a0_0, .int .i64 a0_1, .slice A0_2 l0_2.length c0_2, .string a0_3]) (ok := (fun k_ => (P0_2_ k_ ∨ w.heap.size ≤ k_) ∧ k_ ≠ gb292)) (okp := (fun k_ => (P0_2_ k_ ∨ w.heap.size ≤ k_) ∧ k_ ≠ gb292)) ?hr ?hp (fun _ hk => hk) ((show ∀ k_, w29.heap.size ≤ k_ → (fun k_ => (P0_2_ k_ ∨ w.heap.size ≤ k_) ∧ k_ ≠ gb292) k_ from fun k_ hk => ⟨(.inr (Nat.le_trans (below_size (by repeat (first | (with_reducible first | exact HB.out | apply bl | apply pN | apply b1 | refine bs ?_ GE292.out) | exact HB.out | exact HBo.out))) hk)), Kd.freshB (g := gb292) (o := .cells #[.int .i64 a0_0, .int .i64 a0_1, .slice A0_2 l0_2.length c0_2, .string a0_3] 24 (0, 0)) (by (with_reducible repeat (first | refine bn ?_ _ | refine bd ?_ | refine ba ?_ _)); exact BK292.out) k_ hk⟩) _ (Nat.le_refl _)) (Below.refl _ _) (Nat.le_refl _) (by simp) ?_; (case hd => rfl); (case hg => rfl); (case hr => first | (go_simp; done) | (go_simp; rfl)); (case hp => exact (Reps.c4 (show Kd.FK k24 _ _ (⟨a0_0, a0_1, l0_2, a0_3⟩ : S24) [.int .i64 a0_0, .int .i64 a0_1, .slice A0_2 l0_2.length c0_2, .string a0_3] from (k24_mkF _ _ (⟨a0_0, a0_1, l0_2, a0_3⟩ : S24) (Kd.V_reads' (Kd.V_mono (ok' := (fun k_ => (P0_2_ k_ ∨ w.heap.size ≤ k_) ∧ k_ ≠ gb292)) (HO0_2.out) (fun k_ hk => ⟨hk.1, hk.2⟩))).2.1 (Kd.V_F (Kd.V_mono (ok' := (fun k_ => (P0_2_ k_ ∨ w.heap.size ≤ k_) ∧ k_ ≠ gb292)) (HO0_2.out) (fun k_ hk => ⟨hk.1, hk.2⟩))))) (Reps.none _ _))); intro v296 w31 ho32 hb hg_ hnew_; clear hg_ hnew_; (first | rw [← Ny295.out] at ho32 | (simp only [Int.reduceToNat] at ho32; rw [← Ny295.out] at ho32)); have n0_ := Am (Kd.V_elder' (by (with_reducible repeat (first | apply Kd.V_alloc | apply Kd.V_drewN | apply Kd.V_drew)); exact HO0_2.out) (Kd.N_base ho32) hb); have n1_ := Am (Kd.N_lower ho32 (below_size (by repeat (first | (with_reducible first | exact HB.out | apply bl | apply pN | apply b1 | refine bs ?_ GE292.out) | exact HB.out | exact HBo.out)))); have n2_ := Am (blk_below (g := gb292) (o := .cells #[.int .i64 a0_0, .int .i64 a0_1, .slice A0_2 l0_2.length c0_2, .string a0_3] 24 (0, 0)) (by (with_reducible repeat (first | refine bn ?_ _ | refine bd ?_ | refine ba ?_ _)); exact BK292.out) hb); have n3_ := Am (below_step (by repeat (first | (with_reducible first | exact HB.out | apply bl | apply pN | apply b1 | refine bs ?_ GE292.out) | exact HB.out | exact HBo.out)) hb); clear HO0_2; clear BK292; clear HB; have HO0_2 := n0_; have HO297 := n1_; have BK292 := n2_; have HB := n3_; clear n0_ n1_ n2_ n3_; clear hb ho32; obtain ⟨Ao33, co33, eo33⟩ := Kd.N_slice HO297.out; subst eo33) | (go_at_call 8; (with_reducible refine (shuttlecockref04_Short.calls k _ _ y295 false _ ?side1 ?side2 A10.out).mono ?_); (case side1 => repeat (first | exact (Kd.N_reads' HO297.out).2.2 | (with_reducible refine Kd.C_alloc ?_ _) | (with_reducible refine Kd.C_drewN ?_ _) | (with_reducible refine Kd.C_drew ?_))); (case side2 => exact (Kd.N_reads' HO297.out).2.1); rintro e w' ⟨rfl, ⟨nd, rfl⟩⟩))
    go_meet
    case rel => exact ⟨_, (true), (by first | rfl | (simp; done) | (simp [*]; done)), H', ⟨by first | omega | exact Nat.le_refl _⟩, ⟨by (with_reducible repeat (first | apply Kd.V_alloc | apply Kd.V_drewN | apply Kd.V_drew)); exact Kd.V_mono HO0_2.out (fun _ hk => ⟨hk.1.1, hk.1.2⟩)⟩, ⟨by (with_reducible repeat (first | refine bn ?_ _ | refine bd ?_ | refine ba ?_ _)); exact BK292.out⟩, ⟨by repeat (first | (with_reducible first | exact HB.out | apply bl | apply pN | apply b1 | refine bs ?_ GE292.out) | exact HB.out | exact HBo.out)⟩⟩
  ·
   replace c9 := Bool.eq_false_iff.mpr c9
   subst c9
   have H1 : (shuttlecocklaw04_EventLen.j0 k a1 t293 true a0_0 a0_1 l0_2 a0_3) = some r := by rw [if_neg (show ¬ (false = true) by decide)] at H; exact H
   clear H
   have H := H1
   clear H1
   have H' := Am H
   clear H
   go_wp2_with (first | ((with_reducible refine gate_callee (f := 9) rfl ?_); refine goesL_ (some 12) rfl rfl Try.func9 (by kernel_rfl) rfl #[] rfl (by (try simp only [List.map_toArray, List.map_cons, List.map_nil]); first | done | rfl | (simp only [List.length_drop, List.length_take]; rfl)) ?_; (with_reducible refine (shuttlecocklaw04_fixed.calls k  false _ A8.out).mono ?_); rintro e w34 ⟨rfl, hb⟩; refine ⟨_, rfl, ?_⟩; have n0_ := Am (Kd.V_below (by (with_reducible repeat (first | apply Kd.V_alloc | apply Kd.V_drewN | apply Kd.V_drew)); exact HO0_2.out) hb); have n1_ := Am (blk_below (g := gb292) (o := .cells #[.int .i64 a0_0, .int .i64 a0_1, .slice A0_2 l0_2.length c0_2, .string a0_3] 24 (0, 0)) (by (with_reducible repeat (first | refine bn ?_ _ | refine bd ?_ | refine ba ?_ _)); exact BK292.out) hb); have n2_ := Am (below_step (by repeat (first | (with_reducible first | exact HB.out | apply bl | apply pN | apply b1 | refine bs ?_ GE292.out) | exact HB.out | exact HBo.out)) hb); clear HO0_2; clear BK292; clear HB; have HO0_2 := n0_; have BK292 := n1_; have HB := n2_; clear n0_ n1_ n2_; (try clear hb); (try clear hb2); (try clear hk); (try clear hi)))
   go_meet
   case rel => exact ⟨_, (true), (by first | rfl | (simp; done) | (simp [*]; done)), H', ⟨by first | omega | exact Nat.le_refl _⟩, ⟨by (with_reducible repeat (first | apply Kd.V_alloc | apply Kd.V_drewN | apply Kd.V_drew)); exact HO0_2.out⟩, ⟨by (with_reducible repeat (first | refine bn ?_ _ | refine bd ?_ | refine ba ?_ _)); exact BK292.out⟩, ⟨by repeat (first | (with_reducible first | exact HB.out | apply bl | apply pN | apply b1 | refine bs ?_ GE292.out) | exact HB.out | exact HBo.out)⟩⟩
 case rest =>
  clear HC4
  try clear c1
  try clear p2
  try clear c4
  try clear c5
  try clear c9
  try clear c11
  try clear c12
  try clear c12b0
  try clear c12b1
  try clear c14
  try clear c18
  try clear c18b0
  try clear hcz14_0
  try clear hcz14_1
  try clear hcz14_2
  try clear hcz14_3
  try clear hcz20_0
  try clear hcz20_1
  try clear hcz20_2
  try clear hcz20_3
  try clear hcz25_0
  try clear hcz25_1
  try clear hcz25_2
  try clear hcz25_3
  try clear hcz30_0
  try clear hcz30_1
  try clear hcz30_2
  try clear hcz30_3
  try clear hcz6_0
  try clear hcz6_1
  try clear hcz6_2
  try clear hcz6_3
  try clear hfz14_0
  try clear hfz14_1
  try clear hfz14_2
  try clear hfz14_3
  try clear hfz20_0
  try clear hfz20_1
  try clear hfz20_2
  try clear hfz20_3
  try clear hfz25_0
  try clear hfz25_1
  try clear hfz25_2
  try clear hfz25_3
  try clear hfz30_0
  try clear hfz30_1
  try clear hfz30_2
  try clear hfz30_3
  try clear hfz6_0
  try clear hfz6_1
  try clear hfz6_2
  try clear hfz6_3
  obtain ⟨kq, x31_3, rfl, HA, HJ3, HO_293002, BK292, HB⟩ := hcut
  cases kq with
  | zero => exact absurd HA.out (by simp [shuttlecocklaw04_EventLen.j0])
  | succ kj3 =>
   have H := HA.out
   clear HA
   simp only [shuttlecocklaw04_EventLen.j0] at H
   by_cases c35 : x31_3 = true
   ·
    subst c35
    have H1 : ((shuttlecocklaw04_fixed.f kj3).bind fun t299 => (some t299)) = some r := by rw [if_pos rfl] at H; exact H
    clear H
    have H := H1
    clear H1
    replace H := ob H
    obtain ⟨t299, A360, H⟩ := H
    replace H : (some t299) = some r := H
    have A36 := Am A360
    clear A360
    obtain rfl := Option.some.inj H
    go_wp2_with (first | ((with_reducible refine gate_callee (f := 9) rfl ?_); refine goesL_ (some 32) rfl rfl Try.func9 (by kernel_rfl) rfl #[] rfl (by (try simp only [List.map_toArray, List.map_cons, List.map_nil]); first | done | rfl | (simp only [List.length_drop, List.length_take]; rfl)) ?_; (with_reducible refine (shuttlecocklaw04_fixed.calls kj3  t299 _ A36.out).mono ?_); rintro e w37 ⟨rfl, hb⟩; refine ⟨_, rfl, ?_⟩; have n0_ := Am (Kd.V_below (by (with_reducible repeat (first | apply Kd.V_alloc | apply Kd.V_drewN | apply Kd.V_drew)); exact HO_293002.out) hb); have n1_ := Am (blk_below (g := gb292) (o := .cells #[.int .i64 a0_0, .int .i64 a0_1, .slice A0_2 l0_2.length c0_2, .string a0_3] 24 (0, 0)) (by (with_reducible repeat (first | refine bn ?_ _ | refine bd ?_ | refine ba ?_ _)); exact BK292.out) hb); have n2_ := Am (below_step (by repeat (first | (with_reducible first | exact HB.out | apply bl | apply pN | apply b1 | refine bs ?_ GE292.out) | exact HB.out | exact HBo.out)) hb); clear HO_293002; clear BK292; clear HB; have HO_293002 := n0_; have BK292 := n1_; have HB := n2_; clear n0_ n1_ n2_; (try clear hb); (try clear hb2); (try clear hk); (try clear hi)))
    go_ret
    exact ⟨by first | rfl | (simp [errW_none, errW_some] <;> rfl) | (simp [*, errW_none, errW_some] <;> rfl) | (simp [Aid.ne_nil, Aid.eq_nil, errW_none, errW_some]; done), by repeat (first | (with_reducible first | exact HB.out | apply bl | apply pN | apply b1 | refine bs ?_ GE292.out) | exact HB.out | exact HBo.out)⟩
   ·
    replace c35 := Bool.eq_false_iff.mpr c35
    subst c35
    have H1 : ((shuttlecockref01_Len.f kj3 a0_1).bind fun t300 => (shuttlecocklaw04_EventLen.l0 kj3 a1 t293 (wrap64 (1 + t300)) 0 a0_0 a0_1 l0_2 a0_3)) = some r := by rw [if_neg (show ¬ (false = true) by decide)] at H; exact H
    clear H
    have H := H1
    clear H1
    replace H := ob H
    obtain ⟨t300, A380, H⟩ := H
    replace H : (shuttlecocklaw04_EventLen.l0 kj3 a1 t293 (wrap64 (1 + t300)) 0 a0_0 a0_1 l0_2 a0_3) = some r := H
    have A38 := Am A380
    clear A380
    have H' := Am H
    clear H
    have hcz39_0 : wc.cell? ⟨gb292, 0, none⟩ = some (.int .i64 a0_0) := (bc BK292.out 0).trans rfl
    have hcz39_1 : wc.cell? ⟨gb292, 1, none⟩ = some (.int .i64 a0_1) := (bc BK292.out 1).trans rfl
    have hcz39_2 : wc.cell? ⟨gb292, 2, none⟩ = some (.slice A0_2 l0_2.length c0_2) := (bc BK292.out 2).trans rfl
    have hcz39_3 : wc.cell? ⟨gb292, 3, none⟩ = some (.string a0_3) := (bc BK292.out 3).trans rfl
    have hfz39_0 := bf BK292.out 0
    have hfz39_1 := bf BK292.out 1
    have hfz39_2 := bf BK292.out 2
    have hfz39_3 := bf BK292.out 3
    go_wp2_with (first | ((with_reducible refine gate_callee (f := 17) rfl ?_); refine goesL_ (some 35) rfl rfl Try.func17 (by kernel_rfl) rfl #[.int .i64 a0_1] rfl (by (try simp only [List.map_toArray, List.map_cons, List.map_nil]); first | done | rfl | (simp only [List.length_drop, List.length_take]; rfl)) ?_; (with_reducible refine (shuttlecockref01_Len.calls kj3 a0_1 t300 _ A38.out).mono ?_); rintro e w40 ⟨rfl, hb⟩; refine ⟨_, rfl, ?_⟩; have n0_ := Am (Kd.V_below (by (with_reducible repeat (first | apply Kd.V_alloc | apply Kd.V_drewN | apply Kd.V_drew)); exact HO_293002.out) hb); have n1_ := Am (blk_below (g := gb292) (o := .cells #[.int .i64 a0_0, .int .i64 a0_1, .slice A0_2 l0_2.length c0_2, .string a0_3] 24 (0, 0)) (by (with_reducible repeat (first | refine bn ?_ _ | refine bd ?_ | refine ba ?_ _)); exact BK292.out) hb); have n2_ := Am (below_step (by repeat (first | (with_reducible first | exact HB.out | apply bl | apply pN | apply b1 | refine bs ?_ GE292.out) | exact HB.out | exact HBo.out)) hb); clear HO_293002; clear BK292; clear HB; have HO_293002 := n0_; have BK292 := n1_; have HB := n2_; clear n0_ n1_ n2_; (try clear hb); (try clear hb2); (try clear hk); (try clear hi)))
    go_loopg [6, 7] kj3 (fun kq v6 v7 w' => ∃ (x6_2 : Int) (x7_2 : Int), v6 = .int .i64 x6_2 ∧ v7 = .int .i64 x7_2 ∧ Aside0 (shuttlecocklaw04_EventLen.l0 kq a1 t293 x6_2 x7_2 a0_0 a0_1 l0_2 a0_3 = some r) ∧ Aside0 (kq ≤ kj3) ∧ Aside0 (Kd.V (Kd.int .i64) 3 w' w.heap.size (fun k_ => (P0_2_ k_ ∨ w.heap.size ≤ k_) ∧ k_ ≠ gb292) (.slice A0_2 l0_2.length c0_2) l0_2) ∧ Aside0 (w'.heap[gb292]? = some (.cells #[.int .i64 a0_0, .int .i64 a0_1, (.slice A0_2 l0_2.length c0_2), .string a0_3] 24 (0, 0))) ∧ Aside0 (Below w.heap.size w w'))
    case atStart => exact ⟨(wrap64 (1 + t300)), (0), (by first | rfl | (simp; done) | (simp [*]; done)), (by first | rfl | (simp; done) | (simp [*]; done)), H', ⟨Nat.le_refl _⟩, ⟨by (with_reducible repeat (first | apply Kd.V_alloc | apply Kd.V_drewN | apply Kd.V_drew)); exact HO_293002.out⟩, ⟨by (with_reducible repeat (first | refine bn ?_ _ | refine bd ?_ | refine ba ?_ _)); exact BK292.out⟩, ⟨by repeat (first | (with_reducible first | exact HB.out | apply bl | apply pN | apply b1 | refine bs ?_ GE292.out) | exact HB.out | exact HBo.out)⟩⟩
    case round =>
     clear H'
     try clear c1
     try clear p2
     try clear c3
     try clear c4
     try clear c5
     try clear p6
     try clear c9
     try clear c11
     try clear c12
     try clear c12b0
     try clear c12b1
     try clear c14
     try clear c17
     try clear c18
     try clear c18b0
     try clear c35
     try clear hcz14_0
     try clear hcz14_1
     try clear hcz14_2
     try clear hcz14_3
     try clear hcz20_0
     try clear hcz20_1
     try clear hcz20_2
     try clear hcz20_3
     try clear hcz25_0
     try clear hcz25_1
     try clear hcz25_2
     try clear hcz25_3
     try clear hcz30_0
     try clear hcz30_1
     try clear hcz30_2
     try clear hcz30_3
     try clear hcz39_0
     try clear hcz39_1
     try clear hcz39_2
     try clear hcz39_3
     try clear hcz6_0
     try clear hcz6_1
     try clear hcz6_2
     try clear hcz6_3
     try clear hfz14_0
     try clear hfz14_1
     try clear hfz14_2
     try clear hfz14_3
     try clear hfz20_0
     try clear hfz20_1
     try clear hfz20_2
     try clear hfz20_3
     try clear hfz25_0
     try clear hfz25_1
     try clear hfz25_2
     try clear hfz25_3
     try clear hfz30_0
     try clear hfz30_1
     try clear hfz30_2
     try clear hfz30_3
     try clear hfz39_0
     try clear hfz39_1
     try clear hfz39_2
     try clear hfz39_3
     try clear hfz6_0
     try clear hfz6_1
     try clear hfz6_2
     try clear hfz6_3
     try clear p2
     obtain ⟨x6_2, x7_2, rfl, rfl, HA, HK2, HO_293002, BK292, HB⟩ := hrel
     cases gk with
     | zero => exact absurd HA.out (by simp [shuttlecocklaw04_EventLen.l0])
     | succ k2 =>
      have H := HA.out
      clear HA
      simp only [shuttlecocklaw04_EventLen.l0] at H
      by_cases c41 : x7_2 < (l0_2.length : Int)
      ·
       rw [if_pos c41] at H
       have c41b0 : decide (x7_2 < (l0_2.length : Int)) = true := decide_eq_true c41
       clear c41
       by_cases c42 : 0 ≤ x7_2
       ·
        rw [if_pos c42] at H
        have c42b0 : decide (0 ≤ x7_2) = true := decide_eq_true c42
        clear c42
        replace H := ob H
        obtain ⟨t302, A430, H⟩ := H
        replace H : (shuttlecocklaw04_EventLen.l0 k2 a1 t293 (wrap64 (x6_2 + t302)) (wrap64 (x7_2 + 1)) a0_0 a0_1 l0_2 a0_3) = some r := H
        have A43 := Am A430
        clear A430
        have H' := Am H
        clear H
        have hcz44_0 : wr.cell? ⟨gb292, 0, none⟩ = some (.int .i64 a0_0) := (bc BK292.out 0).trans rfl
        have hcz44_1 : wr.cell? ⟨gb292, 1, none⟩ = some (.int .i64 a0_1) := (bc BK292.out 1).trans rfl
        have hcz44_2 : wr.cell? ⟨gb292, 2, none⟩ = some (.slice A0_2 l0_2.length c0_2) := (bc BK292.out 2).trans rfl
        have hcz44_3 : wr.cell? ⟨gb292, 3, none⟩ = some (.string a0_3) := (bc BK292.out 3).trans rfl
        have hfz44_0 := bf BK292.out 0
        have hfz44_1 := bf BK292.out 1
        have hfz44_2 := bf BK292.out 2
        have hfz44_3 := bf BK292.out 3
        have p301 : 0 ≤ (x7_2 : Int) := of_decide_eq_true (by first | (with_reducible assumption) | assumption)
        have q301 : x7_2 < (l0_2.length : Int) := of_decide_eq_true (by first | (with_reducible assumption) | assumption)
        obtain ⟨ad301, e301, hx301_0⟩ := Kd.at_int (Kd.V_reads' HO_293002.out).2.2 x7_2 p301 q301
        cases e301
        replace p301 := eq_true p301
        replace q301 := eq_true q301
        go_wp2_with (first | ((with_reducible refine gate_callee (f := 17) rfl ?_); refine goesL_ (some 50) rfl rfl Try.func17 (by kernel_rfl) rfl #[.int .i64 (rd l0_2 x7_2)] rfl (by (try simp only [List.map_toArray, List.map_cons, List.map_nil]); first | done | rfl | (simp only [List.length_drop, List.length_take]; rfl)) ?_; (with_reducible refine (shuttlecockref01_Len.calls k2 (rd l0_2 x7_2) t302 _ A43.out).mono ?_); rintro e w45 ⟨rfl, hb⟩; refine ⟨_, rfl, ?_⟩; have n0_ := Am (Kd.V_below (by (with_reducible repeat (first | apply Kd.V_alloc | apply Kd.V_drewN | apply Kd.V_drew)); exact HO_293002.out) hb); have n1_ := Am (blk_below (g := gb292) (o := .cells #[.int .i64 a0_0, .int .i64 a0_1, .slice (some ad301) l0_2.length c0_2, .string a0_3] 24 (0, 0)) (by (with_reducible repeat (first | refine bn ?_ _ | refine bd ?_ | refine ba ?_ _)); exact BK292.out) hb); have n2_ := Am (below_step (by repeat (first | (with_reducible first | exact HB.out | apply bl | apply pN | apply b1 | refine bs ?_ GE292.out) | exact HB.out | exact HBo.out)) hb); clear HO_293002; clear BK292; clear HB; have HO_293002 := n0_; have BK292 := n1_; have HB := n2_; clear n0_ n1_ n2_; (try clear hb); (try clear hb2); (try clear hk); (try clear hi)))
        go_roundg k2
        case measure => have := HJ3.out; have := HK2.out; omega
        case rel => exact ⟨(wrap64 (x6_2 + t302)), (wrap64 (x7_2 + 1)), (by first | rfl | (simp; done) | (simp [*]; done)), (by first | rfl | (simp; done) | (simp [*]; done)), H', ⟨by have := HJ3.out; have := HK2.out; omega⟩, ⟨by (with_reducible repeat (first | apply Kd.V_alloc | apply Kd.V_drewN | apply Kd.V_drew)); exact HO_293002.out⟩, ⟨by (with_reducible repeat (first | refine bn ?_ _ | refine bd ?_ | refine ba ?_ _)); exact BK292.out⟩, ⟨by repeat (first | (with_reducible first | exact HB.out | apply bl | apply pN | apply b1 | refine bs ?_ GE292.out) | exact HB.out | exact HBo.out)⟩⟩
       ·
        rw [if_neg c42] at H
        exact absurd H (by simp)
      ·
       rw [if_neg c41] at H
       have c41b0 : decide (x7_2 < (l0_2.length : Int)) = false := decide_eq_false c41
       clear c41
       have HC46 := Am H
       clear H
       have hcz47_0 : wr.cell? ⟨gb292, 0, none⟩ = some (.int .i64 a0_0) := (bc BK292.out 0).trans rfl
       have hcz47_1 : wr.cell? ⟨gb292, 1, none⟩ = some (.int .i64 a0_1) := (bc BK292.out 1).trans rfl
       have hcz47_2 : wr.cell? ⟨gb292, 2, none⟩ = some (.slice A0_2 l0_2.length c0_2) := (bc BK292.out 2).trans rfl
       have hcz47_3 : wr.cell? ⟨gb292, 3, none⟩ = some (.string a0_3) := (bc BK292.out 3).trans rfl
       have hfz47_0 := bf BK292.out 0
       have hfz47_1 := bf BK292.out 1
       have hfz47_2 := bf BK292.out 2
       have hfz47_3 := bf BK292.out 3
       go_upto_if 54 with (fail)
       go_cut [6] (fun v6 wc => ∃ (kq : Nat) (x6_45 : Int), v6 = .int .i64 x6_45 ∧ Aside0 (shuttlecocklaw04_EventLen.j2 kq a1 t293 x6_45 a0_0 a0_1 l0_2 a0_3 = some r) ∧ Aside0 (kq ≤ k2) ∧ Aside0 (Kd.V (Kd.int .i64) 3 wc w.heap.size (fun k_ => (P0_2_ k_ ∨ w.heap.size ≤ k_) ∧ k_ ≠ gb292) (.slice A0_2 l0_2.length c0_2) l0_2) ∧ Aside0 (wc.heap[gb292]? = some (.cells #[.int .i64 a0_0, .int .i64 a0_1, (.slice A0_2 l0_2.length c0_2), .string a0_3] 24 (0, 0))) ∧ Aside0 (Below w.heap.size w wc))
       case first =>
        have H := HC46.out
        clear HC46
        by_cases c48 : a0_0 ≥ 128
        ·
         rw [if_pos c48] at H
         have c48b0 : decide (128 ≤ a0_0) = true := decide_eq_true c48
         clear c48
         (first | rw [c48b0] | (simp only [i64_w, i32_w]; rw [c48b0]) | skip)
         replace H := ob H
         obtain ⟨t303, A490, H⟩ := H
         replace H : (shuttlecocklaw04_EventLen.j2 k2 a1 t293 (wrap64 (x6_2 + (wrap64 (t303 + (a0_3.size : Int))))) a0_0 a0_1 l0_2 a0_3) = some r := H
         have A49 := Am A490
         clear A490
         have H' := Am H
         clear H
         try go_wp2
         have n0_ := Am (Kd.V_drew HO_293002.out)
         have n1_ := Am (bd BK292.out)
         have n2_ := Am (b1 HB.out)
         clear HO_293002
         clear BK292
         clear HB
         have HO_293002 := n0_
         have BK292 := n1_
         have HB := n2_
         clear n0_ n1_ n2_
         refine start_ (n := 11) (S := fun w' => w'.cell? ⟨gb292, 0, none⟩ = some (.int .i64 a0_0) ∧ w'.cell? ⟨gb292, 1, none⟩ = some (.int .i64 a0_1) ∧ w'.cell? ⟨gb292, 2, none⟩ = some (.slice A0_2 l0_2.length c0_2) ∧ w'.cell? ⟨gb292, 3, none⟩ = some (.string a0_3)) (ds := []) q9_0 (by kernel_rfl) rfl rfl ⟨(bc BK292.out 0).trans rfl, (bc BK292.out 1).trans rfl, (bc BK292.out 2).trans rfl, (bc BK292.out 3).trans rfl⟩ (fun hHeld => ?_); refine with_tabW shuttlecocklaw04_EventLen.tab10 shuttlecocklaw04_EventLen.bits10 (fun HT_ HW_ => ?_)
         generalize wr.drew = w50 at HO_293002 BK292 HB hHeld ⊢
         refine Own.pr_ 0 (some 55) q9_1 HT_ (h := ?_)
         refine Own.pr_ 1 (some 56) q9_2 HT_ (h := ?_)
         refine Own.pr_ 5 (some 60) q9_3 HT_ (h := ?_)
         refine Own.tk_ 2 (some 57) q9_4 HT_ HW_ hHeld (hy := by rintro w' ⟨s0, s1, s2, s3⟩; go_simp; with_reducible rfl) (h := ?_)
         refine Own.pr_ 3 (some 58) q9_5 HT_ (h := ?_)
         refine Own.tk_ 6 (some 61) q9_6 HT_ HW_ hHeld (hy := by rintro w' ⟨s0, s1, s2, s3⟩; go_simp; with_reducible rfl) (h := ?_)
         refine Own.pr_ 7 (some 62) q9_7 HT_ (h := ?_)
         refine one_ (i := 4) (N := some 59) q9_8 rfl rfl (one_of HT_.out (by kernel_rfl)) (by decide) (fun K hK => ?_)
         refine goes_ Try.func17 (by kernel_rfl) rfl #[.int .i64 (a0_3.size : Int)] (by rfl) rfl rfl (by (try simp only [List.map_toArray, List.map_cons, List.map_nil]); first | done | rfl | (simp only [List.length_drop, List.length_take]; rfl)) ?_
         with_reducible refine (shuttlecockref01_Len.calls k2 (a0_3.size : Int) t303 _ A49.out).mono ?_
         rintro e w51 ⟨rfl, hb⟩
         refine ⟨_, rfl, ?_⟩
         have n0_ := Am (Kd.V_below (by (with_reducible repeat (first | apply Kd.V_alloc | apply Kd.V_drewN | apply Kd.V_drew)); exact HO_293002.out) hb)
         have n1_ := Am (blk_below (g := gb292) (o := .cells #[.int .i64 a0_0, .int .i64 a0_1, .slice A0_2 l0_2.length c0_2, .string a0_3] 24 (0, 0)) (by (with_reducible repeat (first | refine bn ?_ _ | refine bd ?_ | refine ba ?_ _)); exact BK292.out) hb)
         have n2_ := Am (below_step (by repeat (first | (with_reducible first | exact HB.out | apply bl | apply pN | apply b1 | refine bs ?_ GE292.out) | exact HB.out | exact HBo.out)) hb)
         clear HO_293002
         clear BK292
         clear HB
         have HO_293002 := n0_
         have BK292 := n1_
         have HB := n2_
         clear n0_ n1_ n2_
         (try clear hb)
         (try clear hb2)
         (try clear hk)
         (try clear hi)
         refine hK.out _ _ ⟨(bc BK292.out 0).trans rfl, (bc BK292.out 1).trans rfl, (bc BK292.out 2).trans rfl, (bc BK292.out 3).trans rfl⟩ (fun hHeld => ?_)
         clear hK K
         refine norm_ (a' := ?_) ?_ ?_
         rotate_left
         ·
          show Act.put _ (some 59) _ = _
          simp only [Act.put, sI, sZ, sS, i64_w, i32_w]
          rfl
         refine Own.pr_ 8 (some 63) q9_9 HT_ (h := ?_)
         refine Own.pr_ 9 (some 64) q9_10 HT_ (h := ?_)
         refine Own.pr_ 10 (some 6) q9_11 HT_ (h := ?_)
         refine done_ (done_of HT_.out (by kernel_rfl)) ?_
         try go_wp2
         go_meet
         case rel => exact ⟨_, (wrap64 (x6_2 + (wrap64 (t303 + (a0_3.size : Int))))), (by first | rfl | (simp; done) | (simp [*]; done)), H', ⟨by have := HJ3.out; have := HK2.out; first | omega | exact Nat.le_refl _⟩, ⟨by (with_reducible repeat (first | apply Kd.V_alloc | apply Kd.V_drewN | apply Kd.V_drew)); exact HO_293002.out⟩, ⟨by (with_reducible repeat (first | refine bn ?_ _ | refine bd ?_ | refine ba ?_ _)); exact BK292.out⟩, ⟨by repeat (first | (with_reducible first | exact HB.out | apply bl | apply pN | apply b1 | refine bs ?_ GE292.out) | exact HB.out | exact HBo.out)⟩⟩
        ·
         rw [if_neg c48] at H
         have c48b0 : decide (128 ≤ a0_0) = false := decide_eq_false c48
         clear c48
         (first | rw [c48b0] | (simp only [i64_w, i32_w]; rw [c48b0]) | skip)
         have H' := Am H
         clear H
         go_wp2
         go_meet
         case rel => exact ⟨_, (x6_2), (by first | rfl | (simp; done) | (simp [*]; done)), H', ⟨by have := HJ3.out; have := HK2.out; first | omega | exact Nat.le_refl _⟩, ⟨by (with_reducible repeat (first | apply Kd.V_alloc | apply Kd.V_drewN | apply Kd.V_drew)); exact HO_293002.out⟩, ⟨by (with_reducible repeat (first | refine bn ?_ _ | refine bd ?_ | refine ba ?_ _)); exact BK292.out⟩, ⟨by repeat (first | (with_reducible first | exact HB.out | apply bl | apply pN | apply b1 | refine bs ?_ GE292.out) | exact HB.out | exact HBo.out)⟩⟩
       case rest =>
        clear HC46
        try clear c1
        try clear p2
        try clear c3
        try clear p3
        try clear q3
        try clear hx3
        try clear c4
        try clear c5
        try clear p6
        try clear c9
        try clear c11
        try clear c12
        try clear c12b0
        try clear c12b1
        try clear c14
        try clear c17
        try clear c18
        try clear c18b0
        try clear p30
        try clear q30
        try clear hx30
        try clear c35
        try clear c41
        try clear c41b0
        try clear c42
        try clear c42b0
        try clear c48
        try clear c48b0
        try clear hcz14_0
        try clear hcz14_1
        try clear hcz14_2
        try clear hcz14_3
        try clear hcz20_0
        try clear hcz20_1
        try clear hcz20_2
        try clear hcz20_3
        try clear hcz25_0
        try clear hcz25_1
        try clear hcz25_2
        try clear hcz25_3
        try clear hcz30_0
        try clear hcz30_1
        try clear hcz30_2
        try clear hcz30_3
        try clear hcz39_0
        try clear hcz39_1
        try clear hcz39_2
        try clear hcz39_3
        try clear hcz44_0
        try clear hcz44_1
        try clear hcz44_2
        try clear hcz44_3
        try clear hcz47_0
        try clear hcz47_1
        try clear hcz47_2
        try clear hcz47_3
        try clear hcz6_0
        try clear hcz6_1
        try clear hcz6_2
        try clear hcz6_3
        try clear hfz14_0
        try clear hfz14_1
        try clear hfz14_2
        try clear hfz14_3
        try clear hfz20_0
        try clear hfz20_1
        try clear hfz20_2
        try clear hfz20_3
        try clear hfz25_0
        try clear hfz25_1
        try clear hfz25_2
        try clear hfz25_3
        try clear hfz30_0
        try clear hfz30_1
        try clear hfz30_2
        try clear hfz30_3
        try clear hfz39_0
        try clear hfz39_1
        try clear hfz39_2
        try clear hfz39_3
        try clear hfz44_0
        try clear hfz44_1
        try clear hfz44_2
        try clear hfz44_3
        try clear hfz47_0
        try clear hfz47_1
        try clear hfz47_2
        try clear hfz47_3
        try clear hfz6_0
        try clear hfz6_1
        try clear hfz6_2
        try clear hfz6_3
        try clear hx301_0
        try clear p2
        try clear p301
        try clear p6
        try clear q301
        obtain ⟨kq, x6_45, rfl, HA, HJ45, HO_293002, BK292, HB⟩ := hcut
        cases kq with
        | zero => exact absurd HA.out (by simp [shuttlecocklaw04_EventLen.j2])
        | succ kj45 =>
         have H := HA.out
         clear HA
         simp only [shuttlecocklaw04_EventLen.j2] at H
         replace H := ob H
         obtain ⟨t305, A520, H⟩ := H
         replace H : (if (t293.size : Int) = x6_45 then ((shuttlecockref01_Len.f kj45 a0_1).bind fun t306 => ((shuttlecockref01_Len.f kj45 a1).bind fun t307 => (if (t305.size : Int) = (wrap64 ((wrap64 (x6_45 - t306)) + t307)) then (if 0 < (t305.size : Int) then (if 0 < (t293.size : Int) then (if (bt t305 0) = (bt t293 0) then ((shuttlecockref01_Len.f kj45 a1).bind fun t308 => (if 0 ≤ (wrap64 (1 + t308)) then (if (wrap64 (1 + t308)) ≤ (t305.size : Int) then ((shuttlecockref01_Len.f kj45 a0_1).bind fun t309 => (if 0 ≤ (wrap64 (1 + t309)) then (if (wrap64 (1 + t309)) ≤ (t293.size : Int) then (some ((t305.extract ((wrap64 (1 + t308)) : Int).toNat t305.size).toList == (t293.extract ((wrap64 (1 + t309)) : Int).toNat t293.size).toList)) else (none)) else (none))) else (none)) else (none))) else (none)) else (none)) else (none)) else (none)))) else (none)) = some r := H
         have A52 := Am A520
         clear A520
         by_cases c53 : (t293.size : Int) = x6_45
         ·
          rw [if_pos c53] at H
          have c53b0 : ((t293.size : Int) == x6_45) = true := beq_iff_eq.mpr c53
          have c53b1 : ((t293.size : Int) != x6_45) = false := bne_eq_false_iff_eq.mpr c53
          clear c53
          replace H := ob H
          obtain ⟨t306, A540, H⟩ := H
          replace H : ((shuttlecockref01_Len.f kj45 a1).bind fun t307 => (if (t305.size : Int) = (wrap64 ((wrap64 (x6_45 - t306)) + t307)) then (if 0 < (t305.size : Int) then (if 0 < (t293.size : Int) then (if (bt t305 0) = (bt t293 0) then ((shuttlecockref01_Len.f kj45 a1).bind fun t308 => (if 0 ≤ (wrap64 (1 + t308)) then (if (wrap64 (1 + t308)) ≤ (t305.size : Int) then ((shuttlecockref01_Len.f kj45 a0_1).bind fun t309 => (if 0 ≤ (wrap64 (1 + t309)) then (if (wrap64 (1 + t309)) ≤ (t293.size : Int) then (some ((t305.extract ((wrap64 (1 + t308)) : Int).toNat t305.size).toList == (t293.extract ((wrap64 (1 + t309)) : Int).toNat t293.size).toList)) else (none)) else (none))) else (none)) else (none))) else (none)) else (none)) else (none)) else (none))) = some r := H
          have A54 := Am A540
          clear A540
          replace H := ob H
          obtain ⟨t307, A550, H⟩ := H
          replace H : (if (t305.size : Int) = (wrap64 ((wrap64 (x6_45 - t306)) + t307)) then (if 0 < (t305.size : Int) then (if 0 < (t293.size : Int) then (if (bt t305 0) = (bt t293 0) then ((shuttlecockref01_Len.f kj45 a1).bind fun t308 => (if 0 ≤ (wrap64 (1 + t308)) then (if (wrap64 (1 + t308)) ≤ (t305.size : Int) then ((shuttlecockref01_Len.f kj45 a0_1).bind fun t309 => (if 0 ≤ (wrap64 (1 + t309)) then (if (wrap64 (1 + t309)) ≤ (t293.size : Int) then (some ((t305.extract ((wrap64 (1 + t308)) : Int).toNat t305.size).toList == (t293.extract ((wrap64 (1 + t309)) : Int).toNat t293.size).toList)) else (none)) else (none))) else (none)) else (none))) else (none)) else (none)) else (none)) else (none)) = some r := H
          have A55 := Am A550
          clear A550
          by_cases c56 : (t305.size : Int) = (wrap64 ((wrap64 (x6_45 - t306)) + t307))
          ·
           rw [if_pos c56] at H
           have c56b0 : ((t305.size : Int) == (wrap64 ((wrap64 (x6_45 - t306)) + t307))) = true := beq_iff_eq.mpr c56
           have c56b1 : ((t305.size : Int) != (wrap64 ((wrap64 (x6_45 - t306)) + t307))) = false := bne_eq_false_iff_eq.mpr c56
           clear c56
           by_cases c57 : 0 < (t305.size : Int)
           ·
            rw [if_pos c57] at H
            have c57b0 : decide (0 < (t305.size : Int)) = true := decide_eq_true c57
            have c57b1 : decide (0 < t305.size) = true := decide_eq_true (by omega)
            clear c57
            by_cases c59 : 0 < (t293.size : Int)
            ·
             rw [if_pos c59] at H
             have c59b0 : decide (0 < (t293.size : Int)) = true := decide_eq_true c59
             have c59b1 : decide (0 < t293.size) = true := decide_eq_true (by omega)
             clear c59
             by_cases c61 : (bt t305 0) = (bt t293 0)
             ·
              rw [if_pos c61] at H
              have c61b0 : ((bt t305 0) == (bt t293 0)) = true := beq_iff_eq.mpr c61
              have c61b1 : ((bt t305 0) != (bt t293 0)) = false := bne_eq_false_iff_eq.mpr c61
              clear c61
              replace H := ob H
              obtain ⟨t308, A620, H⟩ := H
              replace H : (if 0 ≤ (wrap64 (1 + t308)) then (if (wrap64 (1 + t308)) ≤ (t305.size : Int) then ((shuttlecockref01_Len.f kj45 a0_1).bind fun t309 => (if 0 ≤ (wrap64 (1 + t309)) then (if (wrap64 (1 + t309)) ≤ (t293.size : Int) then (some ((t305.extract ((wrap64 (1 + t308)) : Int).toNat t305.size).toList == (t293.extract ((wrap64 (1 + t309)) : Int).toNat t293.size).toList)) else (none)) else (none))) else (none)) else (none)) = some r := H
              have A62 := Am A620
              clear A620
              obtain ⟨ji63, hji63⟩ : ∃ j_ : Int, (wrap64 (1 + t308)) = j_ := ⟨_, rfl⟩
              replace H : (if 0 ≤ (ji63) then (if (ji63) ≤ (t305.size : Int) then ((shuttlecockref01_Len.f kj45 a0_1).bind fun t309 => (if 0 ≤ (wrap64 (1 + t309)) then (if (wrap64 (1 + t309)) ≤ (t293.size : Int) then (some ((t305.extract ((ji63) : Int).toNat t305.size).toList == (t293.extract ((wrap64 (1 + t309)) : Int).toNat t293.size).toList)) else (none)) else (none))) else (none)) else (none)) = some r := by first | (rw [hji63] at H; exact H) | (simp only [hji63] at H ⊢; exact H)
              (try rw [hji63] at A52)
              (try rw [hji63] at A54)
              (try rw [hji63] at A55)
              (try rw [hji63] at A62)
              have hji63w : (IntKind.i64.wrap (1 + t308)) = ji63 := (i64_w _).trans hji63
              by_cases c64 : 0 ≤ (ji63)
              ·
               rw [if_pos c64] at H
               have c64b0 := eq_true c64
               have c64b1 : decide (0 ≤ (ji63)) = true := decide_eq_true c64
               clear c64
               by_cases c65 : (ji63) ≤ (t305.size : Int)
               ·
                rw [if_pos c65] at H
                have c65b0 := eq_true c65
                have c65b1 : decide ((ji63) ≤ (t305.size : Int)) = true := decide_eq_true c65
                clear c65
                replace H := ob H
                obtain ⟨t309, A660, H⟩ := H
                replace H : (if 0 ≤ (wrap64 (1 + t309)) then (if (wrap64 (1 + t309)) ≤ (t293.size : Int) then (some ((t305.extract ((ji63) : Int).toNat t305.size).toList == (t293.extract ((wrap64 (1 + t309)) : Int).toNat t293.size).toList)) else (none)) else (none)) = some r := H
                have A66 := Am A660
                clear A660
                obtain ⟨ji67, hji67⟩ : ∃ j_ : Int, (wrap64 (1 + t309)) = j_ := ⟨_, rfl⟩
                replace H : (if 0 ≤ (ji67) then (if (ji67) ≤ (t293.size : Int) then (some ((t305.extract ((ji63) : Int).toNat t305.size).toList == (t293.extract ((ji67) : Int).toNat t293.size).toList)) else (none)) else (none)) = some r := by first | (rw [hji67] at H; exact H) | (simp only [hji67] at H ⊢; exact H)
                (try rw [hji67] at A52)
                (try rw [hji67] at A54)
                (try rw [hji67] at A55)
                (try rw [hji67] at A62)
                (try rw [hji67] at A66)
                have hji67w : (IntKind.i64.wrap (1 + t309)) = ji67 := (i64_w _).trans hji67
                by_cases c68 : 0 ≤ (ji67)
                ·
                 rw [if_pos c68] at H
                 have c68b0 := eq_true c68
                 have c68b1 : decide (0 ≤ (ji67)) = true := decide_eq_true c68
                 clear c68
                 by_cases c69 : (ji67) ≤ (t293.size : Int)
                 ·
                  rw [if_pos c69] at H
                  have c69b0 := eq_true c69
                  have c69b1 : decide ((ji67) ≤ (t293.size : Int)) = true := decide_eq_true c69
                  clear c69
                  obtain rfl := Option.some.inj H
                  have hcz70_0 : wc.cell? ⟨gb292, 0, none⟩ = some (.int .i64 a0_0) := (bc BK292.out 0).trans rfl
                  have hcz70_1 : wc.cell? ⟨gb292, 1, none⟩ = some (.int .i64 a0_1) := (bc BK292.out 1).trans rfl
                  have hcz70_2 : wc.cell? ⟨gb292, 2, none⟩ = some (.slice A0_2 l0_2.length c0_2) := (bc BK292.out 2).trans rfl
                  have hcz70_3 : wc.cell? ⟨gb292, 3, none⟩ = some (.string a0_3) := (bc BK292.out 3).trans rfl
                  have hfz70_0 := bf BK292.out 0
                  have hfz70_1 := bf BK292.out 1
                  have hfz70_2 := bf BK292.out 2
                  have hfz70_3 := bf BK292.out 3
                  go_upto_region 13 with (first | ((with_reducible refine gate_dst (N := 8) rfl ?_); (try (refine gate_guard (by rfl) ?_; dsimp only)); refine box_event ?hg (N := 8) ?hd (cs := #[.int .i64 0, .int .i64 0, .slice none 0 0, .string (⟨#[]⟩ : ByteArray)]) (t := 24) ?hr ?_; (case hd => rfl); (case hg => rfl); (case hr => first | (go_simp; done) | (go_simp; rfl)); intro gb304 hg w71 hbox hb; have n0_ := Am (Kd.V_below (Kd.V_elderB (by (with_reducible repeat (first | apply Kd.V_alloc | apply Kd.V_drewN | apply Kd.V_drew)); exact HO_293002.out) gb304 (Nat.le_of_eq hg.symm)) hb); have n1_ := Am (blk_below (g := gb292) (o := .cells #[.int .i64 a0_0, .int .i64 a0_1, .slice A0_2 l0_2.length c0_2, .string a0_3] 24 (0, 0)) (by (with_reducible repeat (first | refine bn ?_ _ | refine bd ?_ | refine ba ?_ _)); exact BK292.out) hb); have n2_ := Am (below_step (by repeat (first | (with_reducible first | exact HB.out | apply bl | apply pN | apply b1 | refine bs ?_ GE292.out) | exact HB.out | exact HBo.out)) hb); have n3_ := Am (hbox); have n4_ := Am ((by rw [hg]; exact (below_size (by repeat (first | (with_reducible first | exact HB.out | apply bl | apply pN | apply b1 | refine bs ?_ GE292.out) | exact HB.out | exact HBo.out))) : w.heap.size ≤ gb304)); have n5_ := Am ((by rw [hg]; exact (below_size (by repeat (first | (with_reducible first | exact HB.out | apply bl | apply pN | apply b1 | refine bs ?_ GE292.out) | exact HB.out | exact HBo.out))) : w.heap.size ≤ gb304)); have n6_ := Am ((by rw [hg]; exact Nat.ne_of_lt (blk_lt (g := gb292) (o := .cells #[.int .i64 a0_0, .int .i64 a0_1, .slice A0_2 l0_2.length c0_2, .string a0_3] 24 (0, 0)) (by (with_reducible repeat (first | refine bn ?_ _ | refine bd ?_ | refine ba ?_ _)); exact BK292.out)) : gb292 ≠ gb304)); have n7_ := Am ((by rw [hg]; exact Nat.ne_of_gt (blk_lt (g := gb292) (o := .cells #[.int .i64 a0_0, .int .i64 a0_1, .slice A0_2 l0_2.length c0_2, .string a0_3] 24 (0, 0)) (by (with_reducible repeat (first | refine bn ?_ _ | refine bd ?_ | refine ba ?_ _)); exact BK292.out)) : gb304 ≠ gb292)); clear HO_293002; clear BK292; clear HB; have HO_293002 := n0_; have BK292 := n1_; have HB := n2_; have BK304 := n3_; have GW304 := n4_; have GE304 := n5_; have NB292_304 := n6_; have NB304_292 := n7_; clear n0_ n1_ n2_ n3_ n4_ n5_ n6_ n7_; clear hb hbox hg; have hnb72 := NB304_292.out; have hnc72 := NB292_304.out; have hcz73_0 : w71.cell? ⟨gb304, 0, none⟩ = some (.int .i64 0) := (bc BK304.out 0).trans rfl; have hcz73_1 : w71.cell? ⟨gb304, 1, none⟩ = some (.int .i64 0) := (bc BK304.out 1).trans rfl; have hcz73_2 : w71.cell? ⟨gb304, 2, none⟩ = some (.slice none 0 0) := (bc BK304.out 2).trans rfl; have hcz73_3 : w71.cell? ⟨gb304, 3, none⟩ = some (.string (⟨#[]⟩ : ByteArray)) := (bc BK304.out 3).trans rfl; have hfz73_0 := bf BK304.out 0; have hfz73_1 := bf BK304.out 1; have hfz73_2 := bf BK304.out 2; have hfz73_3 := bf BK304.out 3))
                  have hb := Below.refl (((((w71.setCell ⟨gb304, 0, none⟩ (.int .i64 a0_0)).setCell ⟨gb304, 1, none⟩ (.int .i64 a0_1)).setCell ⟨gb304, 2, none⟩ (.slice A0_2 l0_2.length c0_2)).setCell ⟨gb304, 3, none⟩ (.string a0_3)).setCell ⟨gb304, 1, none⟩ (.int .i64 a1)).heap.size (((((w71.setCell ⟨gb304, 0, none⟩ (.int .i64 a0_0)).setCell ⟨gb304, 1, none⟩ (.int .i64 a0_1)).setCell ⟨gb304, 2, none⟩ (.slice A0_2 l0_2.length c0_2)).setCell ⟨gb304, 3, none⟩ (.string a0_3)).setCell ⟨gb304, 1, none⟩ (.int .i64 a1))
                  have n0_ := Am (Kd.V_below (by (with_reducible repeat (first | apply Kd.V_alloc | apply Kd.V_drewN | apply Kd.V_drew)); exact (Kd.V_mono (Kd.V_far (p := ⟨gb304, 1, none⟩) (Kd.V_far (p := ⟨gb304, 3, none⟩) (Kd.V_far (p := ⟨gb304, 2, none⟩) (Kd.V_far (p := ⟨gb304, 1, none⟩) (Kd.V_far (p := ⟨gb304, 0, none⟩) (Kd.V_mono HO_293002.out (fun k_ hk => (⟨hk, hk.2⟩ : _ ∧ k_ ≠ gb304))) (fun _ hk => hk.2) (.int .i64 a0_0)) (fun _ hk => hk.2) (.int .i64 a0_1)) (fun _ hk => hk.2) (.slice A0_2 l0_2.length c0_2)) (fun _ hk => hk.2) (.string a0_3)) (fun _ hk => hk.2) (.int .i64 a1)) (fun _ h_ => h_.1))) hb)
                  have n1_ := Am (blk_below (g := gb292) (o := .cells #[.int .i64 a0_0, .int .i64 a0_1, .slice A0_2 l0_2.length c0_2, .string a0_3] 24 (0, 0)) (by (with_reducible repeat (first | refine bn ?_ _ | refine bd ?_ | refine ba ?_ _)); refine blk_far ?_ NB292_304.out _; (with_reducible repeat (first | refine bn ?_ _ | refine bd ?_ | refine ba ?_ _)); refine blk_far ?_ NB292_304.out _; (with_reducible repeat (first | refine bn ?_ _ | refine bd ?_ | refine ba ?_ _)); refine blk_far ?_ NB292_304.out _; (with_reducible repeat (first | refine bn ?_ _ | refine bd ?_ | refine ba ?_ _)); refine blk_far ?_ NB292_304.out _; (with_reducible repeat (first | refine bn ?_ _ | refine bd ?_ | refine ba ?_ _)); refine blk_far ?_ NB292_304.out _; (with_reducible repeat (first | refine bn ?_ _ | refine bd ?_ | refine ba ?_ _)); exact BK292.out) hb)
                  have n2_ := Am (blk_below (g := gb304) (o := .cells #[.int .i64 a0_0, .int .i64 a1, .slice A0_2 l0_2.length c0_2, .string a0_3] 24 (0, 0)) (by (with_reducible repeat (first | refine bn ?_ _ | refine bd ?_ | refine ba ?_ _)); refine blk_put (cs := #[.int .i64 a0_0, .int .i64 a0_1, .slice A0_2 l0_2.length c0_2, .string a0_3]) ?_ 1 _ rfl; (with_reducible repeat (first | refine bn ?_ _ | refine bd ?_ | refine ba ?_ _)); refine blk_put (cs := #[.int .i64 a0_0, .int .i64 a0_1, .slice A0_2 l0_2.length c0_2, .string (⟨#[]⟩ : ByteArray)]) ?_ 3 _ rfl; (with_reducible repeat (first | refine bn ?_ _ | refine bd ?_ | refine ba ?_ _)); refine blk_put (cs := #[.int .i64 a0_0, .int .i64 a0_1, .slice none 0 0, .string (⟨#[]⟩ : ByteArray)]) ?_ 2 _ rfl; (with_reducible repeat (first | refine bn ?_ _ | refine bd ?_ | refine ba ?_ _)); refine blk_put (cs := #[.int .i64 a0_0, .int .i64 0, .slice none 0 0, .string (⟨#[]⟩ : ByteArray)]) ?_ 1 _ rfl; (with_reducible repeat (first | refine bn ?_ _ | refine bd ?_ | refine ba ?_ _)); refine blk_put (cs := #[.int .i64 0, .int .i64 0, .slice none 0 0, .string (⟨#[]⟩ : ByteArray)]) ?_ 0 _ rfl; (with_reducible repeat (first | refine bn ?_ _ | refine bd ?_ | refine ba ?_ _)); exact BK304.out) hb)
                  have n3_ := Am (below_step (by repeat (first | (with_reducible first | exact HB.out | apply bl | apply pN | apply b1 | refine bs ?_ GE292.out | refine bs ?_ GE304.out) | exact HB.out | exact HBo.out)) hb)
                  clear HO_293002
                  clear BK292
                  clear BK304
                  clear HB
                  have HO_293002 := n0_
                  have BK292 := n1_
                  have BK304 := n2_
                  have HB := n3_
                  clear n0_ n1_ n2_ n3_
                  clear hb
                  generalize ((((w71.setCell ⟨gb304, 0, none⟩ (.int .i64 a0_0)).setCell ⟨gb304, 1, none⟩ (.int .i64 a0_1)).setCell ⟨gb304, 2, none⟩ (.slice A0_2 l0_2.length c0_2)).setCell ⟨gb304, 3, none⟩ (.string a0_3)).setCell ⟨gb304, 1, none⟩ (.int .i64 a1) = wq_ at HO_293002 BK292 BK304 HB ⊢
                  clear hcz73_0 hfz73_0 hcz73_1 hfz73_1 hcz73_2 hfz73_2 hcz73_3 hfz73_3
                  have hcz73_0 : wq_.cell? ⟨gb304, 0, none⟩ = some (.int .i64 a0_0) := (bc BK304.out 0).trans rfl
                  have hcz73_1 : wq_.cell? ⟨gb304, 1, none⟩ = some (.int .i64 a1) := (bc BK304.out 1).trans rfl
                  have hcz73_2 : wq_.cell? ⟨gb304, 2, none⟩ = some (.slice A0_2 l0_2.length c0_2) := (bc BK304.out 2).trans rfl
                  have hcz73_3 : wq_.cell? ⟨gb304, 3, none⟩ = some (.string a0_3) := (bc BK304.out 3).trans rfl
                  have hfz73_0 := bf BK304.out 0
                  have hfz73_1 := bf BK304.out 1
                  have hfz73_2 := bf BK304.out 2
                  have hfz73_3 := bf BK304.out 3
                  try go_wp2_with (first | ((with_reducible refine gate_callee (f := 14) rfl ?_); refine goesL_ (some 69) rfl rfl Try.func14 (by kernel_rfl) rfl #[.agg #[.int .i64 a0_0, .int .i64 a1, .slice A0_2 l0_2.length c0_2, .string a0_3]] rfl (by (try simp only [List.map_toArray, List.map_cons, List.map_nil]); first | done | rfl | (simp only [List.length_drop, List.length_take]; rfl)) ?_; (with_reducible refine (event_Encode.calls kj45 a0_0 a1 _ _ l0_2 a0_3 t305 _ ?side1 ?side2 A52.out).mono ?_); (case side1 => exact (Kd.V_reads' HO_293002.out).2.2); (case side2 => exact (Kd.V_reads' HO_293002.out).2.1); rintro e w74 ⟨rfl, hb⟩; refine ⟨_, rfl, ?_⟩; have n0_ := Am (Kd.V_below HO_293002.out hb); have n1_ := Am (blk_below BK292.out hb); have n2_ := Am (blk_below BK304.out hb); have n3_ := Am (below_step HB.out hb); clear HO_293002 BK292 BK304 HB; have HO_293002 := n0_; have BK292 := n1_; have BK304 := n2_; have HB := n3_; clear n0_ n1_ n2_ n3_; clear hb))
                  have n0_ := Am (Kd.V_drew HO_293002.out)
                  have n1_ := Am (bd BK292.out)
                  have n2_ := Am (bd BK304.out)
                  have n3_ := Am (b1 HB.out)
                  clear HO_293002
                  clear BK292
                  clear BK304
                  clear HB
                  have HO_293002 := n0_
                  have BK292 := n1_
                  have BK304 := n2_
                  have HB := n3_
                  clear n0_ n1_ n2_ n3_
                  refine start_ (n := 39) (S := fun w' => w'.cell? ⟨gb292, 0, none⟩ = some (.int .i64 a0_0) ∧ w'.cell? ⟨gb292, 1, none⟩ = some (.int .i64 a0_1) ∧ w'.cell? ⟨gb292, 2, none⟩ = some (.slice A0_2 l0_2.length c0_2) ∧ w'.cell? ⟨gb292, 3, none⟩ = some (.string a0_3)) (ds := []) q9_12 (by kernel_rfl) rfl rfl ⟨(bc BK292.out 0).trans rfl, (bc BK292.out 1).trans rfl, (bc BK292.out 2).trans rfl, (bc BK292.out 3).trans rfl⟩ (fun hHeld => ?_); refine with_tabW shuttlecocklaw04_EventLen.tab14 shuttlecocklaw04_EventLen.bits14 (fun HT_ HW_ => ?_)
                  generalize w74.drew = w75 at HO_293002 BK292 BK304 HB hHeld ⊢
                  refine Own.pr_ 0 (some 70) q9_13 HT_ (h := ?_)
                  refine Own.pr_ 1 (some 71) q9_14 HT_ (h := ?_)
                  refine Own.pr_ 2 (some 72) q9_15 HT_ (h := ?_)
                  refine Own.pr_ 3 (some 73) q9_16 HT_ (h := ?_)
                  refine Own.pr_ 4 (some 74) q9_17 HT_ (h := ?_)
                  refine Own.pr_ 5 (some 75) q9_18 HT_ (h := ?_)
                  refine Own.pr_ 6 (some 76) q9_19 HT_ (h := ?_)
                  refine Own.pr_ 7 (some 77) q9_20 HT_ (h := ?_)
                  refine Own.pr_ 8 (some 78) q9_21 HT_ (h := ?_)
                  refine Own.pr_ 12 (some 82) q9_22 HT_ (h := ?_)
                  refine Own.tk_ 9 (some 79) q9_23 HT_ HW_ hHeld (hy := by rintro w' ⟨s0, s1, s2, s3⟩; go_simp; with_reducible rfl) (h := ?_)
                  refine one_ (i := 10) (N := some 80) q9_24 rfl rfl (one_of HT_.out (by kernel_rfl)) (by decide) (fun K hK => ?_)
                  refine goes_ Try.func17 (by kernel_rfl) rfl #[.int .i64 a0_1] (by rfl) rfl rfl (by (try simp only [List.map_toArray, List.map_cons, List.map_nil]); first | done | rfl | (simp only [List.length_drop, List.length_take]; rfl)) ?_
                  with_reducible refine (shuttlecockref01_Len.calls kj45 a0_1 t306 _ A54.out).mono ?_
                  rintro e w76 ⟨rfl, hb⟩
                  refine ⟨_, rfl, ?_⟩
                  have n0_ := Am (Kd.V_below (by (with_reducible repeat (first | apply Kd.V_alloc | apply Kd.V_drewN | apply Kd.V_drew)); exact HO_293002.out) hb)
                  have n1_ := Am (blk_below (g := gb292) (o := .cells #[.int .i64 a0_0, .int .i64 a0_1, .slice A0_2 l0_2.length c0_2, .string a0_3] 24 (0, 0)) (by (with_reducible repeat (first | refine bn ?_ _ | refine bd ?_ | refine ba ?_ _)); exact BK292.out) hb)
                  have n2_ := Am (blk_below (g := gb304) (o := .cells #[.int .i64 a0_0, .int .i64 a1, .slice A0_2 l0_2.length c0_2, .string a0_3] 24 (0, 0)) (by (with_reducible repeat (first | refine bn ?_ _ | refine bd ?_ | refine ba ?_ _)); exact BK304.out) hb)
                  have n3_ := Am (below_step (by repeat (first | (with_reducible first | exact HB.out | apply bl | apply pN | apply b1 | refine bs ?_ GE292.out | refine bs ?_ GE304.out) | exact HB.out | exact HBo.out)) hb)
                  clear HO_293002
                  clear BK292
                  clear BK304
                  clear HB
                  have HO_293002 := n0_
                  have BK292 := n1_
                  have BK304 := n2_
                  have HB := n3_
                  clear n0_ n1_ n2_ n3_
                  (try clear hb)
                  (try clear hb2)
                  (try clear hk)
                  (try clear hi)
                  refine hK.out _ _ ⟨(bc BK292.out 0).trans rfl, (bc BK292.out 1).trans rfl, (bc BK292.out 2).trans rfl, (bc BK292.out 3).trans rfl⟩ (fun hHeld => ?_)
                  clear hK K
                  refine norm_ (a' := ?_) ?_ ?_
                  rotate_left
                  ·
                   show Act.put _ (some 80) _ = _
                   simp only [Act.put, sI, sZ, sS, i64_w, i32_w]
                   rfl
                  refine Own.pr_ 11 (some 81) q9_25 HT_ (h := ?_)
                  refine one_ (i := 13) (N := some 83) q9_26 rfl rfl (one_of HT_.out (by kernel_rfl)) (by decide) (fun K hK => ?_)
                  refine goes_ Try.func17 (by kernel_rfl) rfl #[.int .i64 a1] (by rfl) rfl rfl (by (try simp only [List.map_toArray, List.map_cons, List.map_nil]); first | done | rfl | (simp only [List.length_drop, List.length_take]; rfl)) ?_
                  with_reducible refine (shuttlecockref01_Len.calls kj45 a1 t307 _ A55.out).mono ?_
                  rintro e w77 ⟨rfl, hb⟩
                  refine ⟨_, rfl, ?_⟩
                  have n0_ := Am (Kd.V_below (by (with_reducible repeat (first | apply Kd.V_alloc | apply Kd.V_drewN | apply Kd.V_drew)); exact HO_293002.out) hb)
                  have n1_ := Am (blk_below (g := gb292) (o := .cells #[.int .i64 a0_0, .int .i64 a0_1, .slice A0_2 l0_2.length c0_2, .string a0_3] 24 (0, 0)) (by (with_reducible repeat (first | refine bn ?_ _ | refine bd ?_ | refine ba ?_ _)); exact BK292.out) hb)
                  have n2_ := Am (blk_below (g := gb304) (o := .cells #[.int .i64 a0_0, .int .i64 a1, .slice A0_2 l0_2.length c0_2, .string a0_3] 24 (0, 0)) (by (with_reducible repeat (first | refine bn ?_ _ | refine bd ?_ | refine ba ?_ _)); exact BK304.out) hb)
                  have n3_ := Am (below_step (by repeat (first | (with_reducible first | exact HB.out | apply bl | apply pN | apply b1 | refine bs ?_ GE292.out | refine bs ?_ GE304.out) | exact HB.out | exact HBo.out)) hb)
                  clear HO_293002
                  clear BK292
                  clear BK304
                  clear HB
                  have HO_293002 := n0_
                  have BK292 := n1_
                  have BK304 := n2_
                  have HB := n3_
                  clear n0_ n1_ n2_ n3_
                  (try clear hb)
                  (try clear hb2)
                  (try clear hk)
                  (try clear hi)
                  have p58 : 0 ≤ (0 : Int) := (by omega)
                  have q58 : 0 < t305.size := (by have : (0 : Int) < (t305.size : Int) := of_decide_eq_true (by first | (with_reducible assumption) | assumption); omega)
                  have hx58 : ∀ h : 0 < t305.size, ((t305[0]'h).toNat : Int) = bt t305 0 := bt_at t305 0
                  clear p58
                  have qi58 : (0 < (t305.size : Int)) = True := eq_true (of_decide_eq_true (by first | (with_reducible assumption) | assumption))
                  replace q58 := eq_true q58
                  have p60 : 0 ≤ (0 : Int) := (by omega)
                  have q60 : 0 < t293.size := (by have : (0 : Int) < (t293.size : Int) := of_decide_eq_true (by first | (with_reducible assumption) | assumption); omega)
                  have hx60 : ∀ h : 0 < t293.size, ((t293[0]'h).toNat : Int) = bt t293 0 := bt_at t293 0
                  clear p60
                  have qi60 : (0 < (t293.size : Int)) = True := eq_true (of_decide_eq_true (by first | (with_reducible assumption) | assumption))
                  replace q60 := eq_true q60
                  refine hK.out _ _ ⟨(bc BK292.out 0).trans rfl, (bc BK292.out 1).trans rfl, (bc BK292.out 2).trans rfl, (bc BK292.out 3).trans rfl⟩ (fun hHeld => ?_)
                  clear hK K
                  refine norm_ (a' := ?_) ?_ ?_
                  rotate_left
                  ·
                   show Act.put _ (some 83) _ = _
                   simp only [Act.put, sI, sZ, sS, i64_w, i32_w]
                   rfl
                  refine Own.pr_ 14 (some 84) q9_27 HT_ (h := ?_)
                  refine Own.pr_ 15 (some 85) q9_28 HT_ (h := ?_)
                  refine Own.pr_ 16 (some 86) q9_29 HT_ (h := ?_)
                  refine Own.pr_ 17 (some 87) q9_30 HT_ (h := ?_)
                  refine Own.pr_ 18 (some 88) q9_31 HT_ (h := ?_)
                  refine Own.pr_ 20 (some 90) q9_32 HT_ (h := ?_)
                  refine take_ (i := 19) (N := some 89) (v := ?_) (a' := ?_) q9_33 rfl rfl (take_ofW HT_.out HW_.out (by kernel_rfl)) (fun _ _ _ h => h) (Or.inl ⟨by rfl, ?_⟩) hHeld ?_ ?_
                  rotate_left
                  ·
                   rintro w' ⟨s0, s1, s2, s3⟩
                   go_simp
                   first | with_reducible rfl | (rw [dif_pos (And.intro (of_decide_eq_true (by assumption)) (of_decide_eq_true (by assumption)))]; simp only [bt_at]; rfl)
                  rotate_left
                  ·
                   simp only [Act.put, sI, sZ, sS, i64_w, i32_w]
                   rfl
                  refine take_ (i := 21) (N := some 91) (v := ?_) (a' := ?_) q9_34 rfl rfl (take_ofW HT_.out HW_.out (by kernel_rfl)) (fun _ _ _ h => h) (Or.inl ⟨by rfl, ?_⟩) hHeld ?_ ?_
                  rotate_left
                  ·
                   rintro w' ⟨s0, s1, s2, s3⟩
                   go_simp
                   first | with_reducible rfl | (rw [dif_pos (And.intro (of_decide_eq_true (by assumption)) (of_decide_eq_true (by assumption)))]; simp only [bt_at]; rfl)
                  rotate_left
                  ·
                   simp only [Act.put, sI, sZ, sS, i64_w, i32_w]
                   rfl
                  refine Own.pr_ 22 (some 92) q9_35 HT_ (h := ?_)
                  refine Own.pr_ 23 (some 93) q9_36 HT_ (h := ?_)
                  refine Own.pr_ 24 (some 94) q9_37 HT_ (h := ?_)
                  refine Own.pr_ 25 (some 95) q9_38 HT_ (h := ?_)
                  refine Own.pr_ 26 (some 96) q9_39 HT_ (h := ?_)
                  refine Own.pr_ 30 (some 100) q9_40 HT_ (h := ?_)
                  refine Own.pr_ 31 (some 101) q9_41 HT_ (h := ?_)
                  refine Own.tk_ 32 (some 102) q9_42 HT_ HW_ hHeld (hy := by rintro w' ⟨s0, s1, s2, s3⟩; go_simp; with_reducible rfl) (h := ?_)
                  refine one_ (i := 27) (N := some 97) q9_43 rfl rfl (one_of HT_.out (by kernel_rfl)) (by decide) (fun K hK => ?_)
                  refine goes_ Try.func17 (by kernel_rfl) rfl #[.int .i64 a1] (by rfl) rfl rfl (by (try simp only [List.map_toArray, List.map_cons, List.map_nil]); first | done | rfl | (simp only [List.length_drop, List.length_take]; rfl)) ?_
                  with_reducible refine (shuttlecockref01_Len.calls kj45 a1 t308 _ A62.out).mono ?_
                  rintro e w78 ⟨rfl, hb⟩
                  refine ⟨_, rfl, ?_⟩
                  have n0_ := Am (Kd.V_below (by (with_reducible repeat (first | apply Kd.V_alloc | apply Kd.V_drewN | apply Kd.V_drew)); exact HO_293002.out) hb)
                  have n1_ := Am (blk_below (g := gb292) (o := .cells #[.int .i64 a0_0, .int .i64 a0_1, .slice A0_2 l0_2.length c0_2, .string a0_3] 24 (0, 0)) (by (with_reducible repeat (first | refine bn ?_ _ | refine bd ?_ | refine ba ?_ _)); exact BK292.out) hb)
                  have n2_ := Am (blk_below (g := gb304) (o := .cells #[.int .i64 a0_0, .int .i64 a1, .slice A0_2 l0_2.length c0_2, .string a0_3] 24 (0, 0)) (by (with_reducible repeat (first | refine bn ?_ _ | refine bd ?_ | refine ba ?_ _)); exact BK304.out) hb)
                  have n3_ := Am (below_step (by repeat (first | (with_reducible first | exact HB.out | apply bl | apply pN | apply b1 | refine bs ?_ GE292.out | refine bs ?_ GE304.out) | exact HB.out | exact HBo.out)) hb)
                  clear HO_293002
                  clear BK292
                  clear BK304
                  clear HB
                  have HO_293002 := n0_
                  have BK292 := n1_
                  have BK304 := n2_
                  have HB := n3_
                  clear n0_ n1_ n2_ n3_
                  (try clear hb)
                  (try clear hb2)
                  (try clear hk)
                  (try clear hi)
                  refine hK.out _ _ ⟨(bc BK292.out 0).trans rfl, (bc BK292.out 1).trans rfl, (bc BK292.out 2).trans rfl, (bc BK292.out 3).trans rfl⟩ (fun hHeld => ?_)
                  clear hK K
                  refine norm_ (a' := ?_) ?_ ?_
                  rotate_left
                  ·
                   show Act.put _ (some 97) _ = _
                   simp only [Act.put, sI, sZ, sS, i64_w, i32_w]
                   rfl
                  refine Own.pr_ 28 (some 98) q9_44 HT_ (h := ?_)
                  refine Own.pr_ 29 (some 99) q9_45 HT_ (h := ?_)
                  refine one_ (i := 33) (N := some 103) q9_46 rfl rfl (one_of HT_.out (by kernel_rfl)) (by decide) (fun K hK => ?_)
                  refine goes_ Try.func17 (by kernel_rfl) rfl #[.int .i64 a0_1] (by rfl) rfl rfl (by (try simp only [List.map_toArray, List.map_cons, List.map_nil]); first | done | rfl | (simp only [List.length_drop, List.length_take]; rfl)) ?_
                  with_reducible refine (shuttlecockref01_Len.calls kj45 a0_1 t309 _ A66.out).mono ?_
                  rintro e w79 ⟨rfl, hb⟩
                  refine ⟨_, rfl, ?_⟩
                  have n0_ := Am (Kd.V_below (by (with_reducible repeat (first | apply Kd.V_alloc | apply Kd.V_drewN | apply Kd.V_drew)); exact HO_293002.out) hb)
                  have n1_ := Am (blk_below (g := gb292) (o := .cells #[.int .i64 a0_0, .int .i64 a0_1, .slice A0_2 l0_2.length c0_2, .string a0_3] 24 (0, 0)) (by (with_reducible repeat (first | refine bn ?_ _ | refine bd ?_ | refine ba ?_ _)); exact BK292.out) hb)
                  have n2_ := Am (blk_below (g := gb304) (o := .cells #[.int .i64 a0_0, .int .i64 a1, .slice A0_2 l0_2.length c0_2, .string a0_3] 24 (0, 0)) (by (with_reducible repeat (first | refine bn ?_ _ | refine bd ?_ | refine ba ?_ _)); exact BK304.out) hb)
                  have n3_ := Am (below_step (by repeat (first | (with_reducible first | exact HB.out | apply bl | apply pN | apply b1 | refine bs ?_ GE292.out | refine bs ?_ GE304.out) | exact HB.out | exact HBo.out)) hb)
                  clear HO_293002
                  clear BK292
                  clear BK304
                  clear HB
                  have HO_293002 := n0_
                  have BK292 := n1_
                  have BK304 := n2_
                  have HB := n3_
                  clear n0_ n1_ n2_ n3_
                  (try clear hb)
                  (try clear hb2)
                  (try clear hk)
                  (try clear hi)
                  refine hK.out _ _ ⟨(bc BK292.out 0).trans rfl, (bc BK292.out 1).trans rfl, (bc BK292.out 2).trans rfl, (bc BK292.out 3).trans rfl⟩ (fun hHeld => ?_)
                  clear hK K
                  refine norm_ (a' := ?_) ?_ ?_
                  rotate_left
                  ·
                   show Act.put _ (some 103) _ = _
                   simp only [Act.put, sI, sZ, sS, i64_w, i32_w]
                   rfl
                  refine Own.pr_ 34 (some 104) q9_47 HT_ (h := ?_)
                  refine Own.pr_ 35 (some 105) q9_48 HT_ (h := ?_)
                  refine Own.pr_ 36 (some 106) q9_49 HT_ (h := ?_)
                  refine Own.pr_ 37 (some 107) q9_50 HT_ (h := ?_)
                  refine Own.pr_ 38 (some 4) q9_51 HT_ (h := ?_)
                  refine done_ (done_of HT_.out (by kernel_rfl)) ?_
                  try go_wp2
                  go_ret
                  exact ⟨by first | rfl | (simp [errW_none, errW_some] <;> rfl) | (simp only [← hji63, ← hji67]; first | rfl | (simp [errW_none, errW_some] <;> rfl)) | (simp [*, errW_none, errW_some] <;> rfl) | (simp [Aid.ne_nil, Aid.eq_nil, errW_none, errW_some]; done), by repeat (first | (with_reducible first | exact HB.out | apply bl | apply pN | apply b1 | refine bs ?_ GE292.out | refine bs ?_ GE304.out) | exact HB.out | exact HBo.out)⟩
                 ·
                  rw [if_neg c69] at H
                  exact absurd H (by simp)
                ·
                 rw [if_neg c68] at H
                 exact absurd H (by simp)
               ·
                rw [if_neg c65] at H
                exact absurd H (by simp)
              ·
               rw [if_neg c64] at H
               exact absurd H (by simp)
             ·
              rw [if_neg c61] at H
              have c61b0 : ((bt t305 0) == (bt t293 0)) = false := beq_eq_false_iff_ne.mpr c61
              have c61b1 : ((bt t305 0) != (bt t293 0)) = true := bne_iff_ne.mpr c61
              exact absurd H (by simp)
            ·
             rw [if_neg c59] at H
             exact absurd H (by simp)
           ·
            rw [if_neg c57] at H
            exact absurd H (by simp)
          ·
           rw [if_neg c56] at H
           have c56b0 : ((t305.size : Int) == (wrap64 ((wrap64 (x6_45 - t306)) + t307))) = false := beq_eq_false_iff_ne.mpr c56
           have c56b1 : ((t305.size : Int) != (wrap64 ((wrap64 (x6_45 - t306)) + t307))) = true := bne_iff_ne.mpr c56
           exact absurd H (by simp)
         ·
          rw [if_neg c53] at H
          have c53b0 : ((t293.size : Int) == x6_45) = false := beq_eq_false_iff_ne.mpr c53
          have c53b1 : ((t293.size : Int) != x6_45) = true := bne_iff_ne.mpr c53
          exact absurd H (by simp)

/-- THE ONE PURE STATEMENT of shuttlecocklaw04_EventLen (own row). -/
def shuttlecocklaw04_EventLen.Pure : Prop := ∀ (y0 : S24) (y1 : Int), ((Lit.int .i64 y0.f0).wf = true ∧ (Lit.int .i64 y0.f1).wf = true ∧ ((∀ e5 ∈ y0.f2, (Lit.int .i64 e5).wf = true) ∧ y0.f2.length ≤ 140737488351232) ∧ y0.f3.size ≤ 140737488351232) → (Lit.int .i64 y1).wf = true → ∃ k, shuttlecocklaw04_EventLen.f k y0.f0 y0.f1 y0.f2 y0.f3 y1 = some true

end Go.Proofs.Ythechcflnkofgaa.Q
