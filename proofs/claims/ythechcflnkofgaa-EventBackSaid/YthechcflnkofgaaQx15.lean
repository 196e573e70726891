-- printed by a program of this session (NOTES: hprint); not the kit's print
-- minified
-- halved
import Derived.Test.YthechcflnkofgaaAl
import Derived.Test.YthechcflnkofgaaQx0
import Derived.Test.YthechcflnkofgaaQx1
import Derived.Test.YthechcflnkofgaaQx4
import Derived.Test.YthechcflnkofgaaQx5
import Derived.Test.YthechcflnkofgaaQx7
import Derived.Test.YthechcflnkofgaaQx8
namespace Go.Proofs.Ythechcflnkofgaa.Q
open Go.RowKit Go.Proofs.YthechcflnkofgaaW.PrintWords Go.Proofs.YthechcflnkofgaaW.PrintLast Go.Proofs.YthechcflnkofgaaW.PrintMore
attribute [local go_sem] max2_int min2_int max_two min_two max_three min_three max_four min_four   -- for this text's walks alone
set_option linter.unusedVariables false
set_option linter.unusedSimpArgs false

def q15_0 : Array Bool := let o := true; let z := false; #[z,z,z,z,z,z,z,z,z,z,z,z,z,z,z,z,z,z,z,z,z,z,z,z]
def q15_1 : Array Bool := let o := true; let z := false; #[o,z,z,z,z,z,z,z,z,z,z,z,z,z,z,z,z,z,z,z,z,z,z,z]
def q15_2 : Array Bool := let o := true; let z := false; #[o,o,z,z,z,z,z,z,z,z,z,z,z,z,z,z,z,z,z,z,z,z,z,z]
def q15_3 : Array Bool := let o := true; let z := false; #[o,o,o,z,z,z,z,z,z,z,z,z,z,z,z,z,z,z,z,z,z,z,z,z]
def q15_4 : Array Bool := let o := true; let z := false; #[o,o,o,o,z,z,z,z,z,z,z,z,z,z,z,z,z,z,z,z,z,z,z,z]
def q15_5 : Array Bool := let o := true; let z := false; #[o,o,o,o,o,z,z,z,z,z,z,z,z,z,z,z,z,z,z,z,z,z,z,z]
def q15_6 : Array Bool := let o := true; let z := false; #[o,o,o,o,o,o,z,z,z,z,z,z,z,z,z,z,z,z,z,z,z,z,z,z]
def q15_7 : Array Bool := let o := true; let z := false; #[o,o,o,o,o,o,o,z,z,z,z,z,z,z,z,z,z,z,z,z,z,z,z,z]
def q15_8 : Array Bool := let o := true; let z := false; #[o,o,o,o,o,o,o,o,z,z,z,z,z,z,z,z,z,z,z,z,z,z,z,z]
def q15_9 : Array Bool := let o := true; let z := false; #[o,o,o,o,o,o,o,o,o,z,z,z,z,z,z,z,z,z,z,z,z,z,z,z]
def q15_10 : Array Bool := let o := true; let z := false; #[o,o,o,o,o,o,o,o,o,o,z,z,z,z,z,z,z,z,z,z,z,z,z,z]
def q15_11 : Array Bool := let o := true; let z := false; #[o,o,o,o,o,o,o,o,o,o,o,z,z,z,z,z,z,z,z,z,z,z,z,z]
def q15_12 : Array Bool := let o := true; let z := false; #[o,o,o,o,o,o,o,o,o,o,o,o,z,z,z,z,z,z,z,z,z,z,z,z]
def q15_13 : Array Bool := let o := true; let z := false; #[o,o,o,o,o,o,o,o,o,o,o,o,o,z,z,z,z,z,z,z,z,z,z,z]
def q15_14 : Array Bool := let o := true; let z := false; #[o,o,o,o,o,o,o,o,o,o,o,o,o,o,o,o,o,o,o,o,o,o,z,z]
def q15_15 : Array Bool := let o := true; let z := false; #[o,o,o,o,o,o,o,o,o,o,o,o,o,o,o,o,o,o,o,o,o,o,o,z]
def q15_16 : Array Bool := let o := true; let z := false; #[o,o,o,o,o,o,o,o,o,o,o,o,o,o,o,o,o,o,o,o,o,o,o,o]
def q15_17 : Array Bool := let o := true; let z := false; #[o,o,o,o,o,o,o,o,o,o,o,o,o,z,z,o,z,z,z,z,z,z,z,z]
def q15_18 : Array Bool := let o := true; let z := false; #[o,o,o,o,o,o,o,o,o,o,o,o,o,z,z,o,o,z,z,z,z,z,z,z]
def q15_19 : Array Bool := let o := true; let z := false; #[o,o,o,o,o,o,o,o,o,o,o,o,o,z,z,o,o,o,z,z,z,z,z,z]
def q15_20 : Array Bool := let o := true; let z := false; #[o,o,o,o,o,o,o,o,o,o,o,o,o,z,z,o,o,o,o,z,z,z,z,z]
def q15_21 : Array Bool := let o := true; let z := false; #[o,o,o,o,o,o,o,o,o,o,o,o,o,z,z,o,o,o,o,o,z,z,z,z]
def q15_22 : Array Bool := let o := true; let z := false; #[o,o,o,o,o,o,o,o,o,o,o,o,o,z,z,o,o,o,o,o,o,z,z,z]
def q15_23 : Array Bool := let o := true; let z := false; #[o,o,o,o,o,o,o,o,o,o,o,o,o,o,z,o,o,o,o,o,o,z,z,z]
def q15_24 : Array Bool := let o := true; let z := false; #[o,o,o,o,o,o,o,o,o,o,o,o,o,o,o,o,o,o,o,o,o,z,z,z]
def q15_25 : Array Bool := let o := true; let z := false; #[z,z,z,z,z,z,z,z,z,z,z]
def q15_26 : Array Bool := let o := true; let z := false; #[o,z,z,z,z,z,z,z,z,z,z]
def q15_27 : Array Bool := let o := true; let z := false; #[o,o,z,z,z,z,z,z,z,z,z]
def q15_28 : Array Bool := let o := true; let z := false; #[o,o,o,z,z,z,z,z,z,z,z]
def q15_29 : Array Bool := let o := true; let z := false; #[o,o,o,z,o,z,z,z,z,z,z]
def q15_30 : Array Bool := let o := true; let z := false; #[o,o,o,z,o,o,z,z,z,z,z]
def q15_31 : Array Bool := let o := true; let z := false; #[o,o,o,z,o,o,o,z,z,z,z]
def q15_32 : Array Bool := let o := true; let z := false; #[o,o,o,o,o,o,o,z,z,z,z]
def q15_33 : Array Bool := let o := true; let z := false; #[o,o,o,o,o,o,o,o,z,z,z]
def q15_34 : Array Bool := let o := true; let z := false; #[o,o,o,o,o,o,o,o,o,z,z]
def q15_35 : Array Bool := let o := true; let z := false; #[o,o,o,o,o,o,o,o,o,o,z]
def q15_36 : Array Bool := let o := true; let z := false; #[o,o,o,o,o,o,o,o,o,o,o]
/-! ### shuttlecocklaw04_EventBack: function 4 -/
mutual
def shuttlecocklaw04_EventBack.j0 : Nat → List (S24) → Int → ByteArray → Bool → Option (Bool)
 | 0, _, _, _, _ => none
 | k + 1, x0, x1, x2, x31 => if x31 = true then ((shuttlecocklaw04_fixed.f k).bind fun t389 => (some t389)) else ((event_Decode.f k x2 0).bind fun bt390 => (if bt390.2.2.2.2.2 = 0 then ((event_May.f bt390.1 bt390.2.1 bt390.2.2.1 bt390.2.2.2.1).bind fun t399 => (if t399 = true then (if bt390.2.2.2.2.1 > (x2.size : Int) then (shuttlecocklaw04_EventBack.j1 k x0 x1 true) else ((event_Encode.f k bt390.1 bt390.2.1 bt390.2.2.1 bt390.2.2.2.1).bind fun t400 => (if 0 ≤ (mn bt390.2.2.2.2.1 (x2.size : Int)) then (if (mn bt390.2.2.2.2.1 (x2.size : Int)) ≤ (x2.size : Int) then (shuttlecocklaw04_EventBack.j1 k x0 x1 (t400.toList != (x2.extract 0 ((mn bt390.2.2.2.2.1 (x2.size : Int)) : Int).toNat).toList)) else (none)) else (none)))) else (shuttlecocklaw04_EventBack.j1 k x0 x1 true))) else (shuttlecocklaw04_EventBack.j1 k x0 x1 false)))
def shuttlecocklaw04_EventBack.j1 : Nat → List (S24) → Int → Bool → Option (Bool)
 | 0, _, _, _ => none
 | k + 1, x0, x1, x62 => if x62 = true then (none) else (shuttlecocklaw04_EventBack.l0 k x0 x1 (⟨#[]⟩ : ByteArray) 0)
def shuttlecocklaw04_EventBack.l0 : Nat → List (S24) → Int → ByteArray → Int → Option (Bool)
 | 0, _, _, _, _ => none
 | k + 1, x0, x1, x10, x11 => if x11 < (x0.length : Int) then (if 0 ≤ x11 then ((event_May.f ((rd_T24 x0 x11).f0) ((rd_T24 x0 x11).f1) ((rd_T24 x0 x11).f2) ((rd_T24 x0 x11).f3)).bind fun t402 => (if t402 = true then ((event_Encode.f k ((rd_T24 x0 x11).f0) ((rd_T24 x0 x11).f1) ((rd_T24 x0 x11).f2) ((rd_T24 x0 x11).f3)).bind fun t404 => (if x10.size + t404.size ≤ 9223372036854775807 then (shuttlecocklaw04_EventBack.l0 k x0 x1 (x10 ++ t404) (wrap64 (x11 + 1))) else (none))) else ((event_Encode.f k ((rd_T24 x0 x11).f0) ((rd_T24 x0 x11).f1) ((rd_T24 x0 x11).f2) ((rd_T24 x0 x11).f3)).bind fun t406 => (some (t406.toList == ([] : List UInt8)))))) else (none)) else (shuttlecocklaw04_EventBack.l1 k x0 x1 x10 0 0)
def shuttlecocklaw04_EventBack.l1 : Nat → List (S24) → Int → ByteArray → Int → Int → Option (Bool)
 | 0, _, _, _, _, _ => none
 | k + 1, x0, x1, x10, x12, x13 => if x13 < (x0.length : Int) then ((event_Decode.f k x10 x12).bind fun bt407 => (if bt407.2.2.2.2.2 = 0 then (if 0 ≤ x13 then ((shuttlecockref04_Same.f k bt407.1 bt407.2.1 bt407.2.2.1 bt407.2.2.2.1 ((rd_T24 x0 x13).f0) ((rd_T24 x0 x13).f1) ((rd_T24 x0 x13).f2) ((rd_T24 x0 x13).f3)).bind fun t417 => (shuttlecocklaw04_EventBack.j4 k x0 x1 x10 x12 x13 bt407.2.2.2.2.1 (!t417))) else (none)) else (shuttlecocklaw04_EventBack.j4 k x0 x1 x10 x12 x13 bt407.2.2.2.2.1 true))) else (some (x12 == (x10.size : Int)))
def shuttlecocklaw04_EventBack.j4 : Nat → List (S24) → Int → ByteArray → Int → Int → Int → Bool → Option (Bool)
 | 0, _, _, _, _, _, _, _ => none
 | k + 1, x0, x1, x10, x12, x13, x15, x111 => if x111 = true then (none) else (if x1 ≥ x12 then (shuttlecocklaw04_EventBack.j5 k x0 x1 x10 x12 x13 x15 (decide (x1 < x15))) else (shuttlecocklaw04_EventBack.j5 k x0 x1 x10 x12 x13 x15 false))
def shuttlecocklaw04_EventBack.j5 : Nat → List (S24) → Int → ByteArray → Int → Int → Int → Bool → Option (Bool)
 | 0, _, _, _, _, _, _, _ => none
 | k + 1, x0, x1, x10, x12, x13, x15, x119 => if x119 = true then (if 0 ≤ x1 then (if x1 ≤ (x10.size : Int) then ((event_Decode.f k (x10.extract 0 (x1 : Int).toNat) x12).bind fun bt418 => (if bt418.2.2.2.2.2 = 10 then (shuttlecocklaw04_EventBack.l1 k x0 x1 x10 x15 (wrap64 (x13 + 1))) else (none))) else (none)) else (none)) else (shuttlecocklaw04_EventBack.l1 k x0 x1 x10 x15 (wrap64 (x13 + 1)))
end
def shuttlecocklaw04_EventBack.f (k : Nat) (l0 : List (S24)) (a1 : Int) (a2 : ByteArray) : Option (Bool) := (shuttlecocklaw04_fixed.f k).bind fun t387 => (if t387 = true then ((shuttlecockref04_Short.f k l0).bind fun t388 => (if t388 = true then (shuttlecocklaw04_EventBack.j0 k l0 a1 a2 (decide ((a2.size : Int) > 5000))) else (shuttlecocklaw04_EventBack.j0 k l0 a1 a2 true))) else (shuttlecocklaw04_EventBack.j0 k l0 a1 a2 true))
theorem shuttlecocklaw04_EventBack.mono_l : ∀ k, (∀ y0 y1 y2 y3, LeO (shuttlecocklaw04_EventBack.j0 k y0 y1 y2 y3) (shuttlecocklaw04_EventBack.j0 (k + 1) y0 y1 y2 y3)) ∧ (∀ y0 y1 y2, LeO (shuttlecocklaw04_EventBack.j1 k y0 y1 y2) (shuttlecocklaw04_EventBack.j1 (k + 1) y0 y1 y2)) ∧ (∀ y0 y1 y2 y3, LeO (shuttlecocklaw04_EventBack.l0 k y0 y1 y2 y3) (shuttlecocklaw04_EventBack.l0 (k + 1) y0 y1 y2 y3)) ∧ (∀ y0 y1 y2 y3 y4, LeO (shuttlecocklaw04_EventBack.l1 k y0 y1 y2 y3 y4) (shuttlecocklaw04_EventBack.l1 (k + 1) y0 y1 y2 y3 y4)) ∧ (∀ y0 y1 y2 y3 y4 y5 y6, LeO (shuttlecocklaw04_EventBack.j4 k y0 y1 y2 y3 y4 y5 y6) (shuttlecocklaw04_EventBack.j4 (k + 1) y0 y1 y2 y3 y4 y5 y6)) ∧ (∀ y0 y1 y2 y3 y4 y5 y6, LeO (shuttlecocklaw04_EventBack.j5 k y0 y1 y2 y3 y4 y5 y6) (shuttlecocklaw04_EventBack.j5 (k + 1) y0 y1 y2 y3 y4 y5 y6))
 | 0 => ⟨fun _ _ _ _ r h => by simp [shuttlecocklaw04_EventBack.j0] at h, fun _ _ _ r h => by simp [shuttlecocklaw04_EventBack.j1] at h, fun _ _ _ _ r h => by simp [shuttlecocklaw04_EventBack.l0] at h, fun _ _ _ _ _ r h => by simp [shuttlecocklaw04_EventBack.l1] at h, fun _ _ _ _ _ _ _ r h => by simp [shuttlecocklaw04_EventBack.j4] at h, fun _ _ _ _ _ _ _ r h => by simp [shuttlecocklaw04_EventBack.j5] at h⟩
 | k + 1 => by
  obtain ⟨ih0, ih1, ih2, ih3, ih4, ih5⟩ := shuttlecocklaw04_EventBack.mono_l k
  refine ⟨?_, ?_, ?_, ?_, ?_, ?_⟩
  ·
   intro y0 y1 y2 y3
   unfold shuttlecocklaw04_EventBack.j0
   repeat' first
   | (with_reducible exact ih0 _ _ _ _)
   | (with_reducible exact ih1 _ _ _)
   | (with_reducible exact ih2 _ _ _ _)
   | (with_reducible exact ih3 _ _ _ _ _)
   | (with_reducible exact ih4 _ _ _ _ _ _ _)
   | (with_reducible exact ih5 _ _ _ _ _ _ _)
   | (with_reducible exact event_Decode.mono _ _ _)
   | (with_reducible exact event_Encode.mono _ _ _ _ _)
   | (with_reducible exact shuttlecocklaw04_fixed.mono _)
   | (with_reducible exact shuttlecockref04_Same.mono _ _ _ _ _ _ _ _ _)
   | (with_reducible exact shuttlecockref04_Short.mono _ _)
   | (with_reducible exact LeO.refl _)
   | (with_reducible exact LeO.none _)
   | (with_reducible refine LeO.ite ?_ ?_)
   | (with_reducible refine LeO.bind ?_ (fun _ => ?_))
   | exact ih0 _ _ _ _
   | exact ih1 _ _ _
   | exact ih2 _ _ _ _
   | exact ih3 _ _ _ _ _
   | exact ih4 _ _ _ _ _ _ _
   | exact ih5 _ _ _ _ _ _ _
   | exact event_Decode.mono _ _ _
   | exact event_Encode.mono _ _ _ _ _
   | exact shuttlecocklaw04_fixed.mono _
   | exact shuttlecockref04_Same.mono _ _ _ _ _ _ _ _ _
   | exact shuttlecockref04_Short.mono _ _
   | exact LeO.none _
   | refine LeO.ite ?_ ?_
   | refine LeO.bind ?_ (fun _ => ?_)
  ·
   intro y0 y1 y2
   unfold shuttlecocklaw04_EventBack.j1
   repeat' first
   | (with_reducible exact ih0 _ _ _ _)
   | (with_reducible exact ih1 _ _ _)
   | (with_reducible exact ih2 _ _ _ _)
   | (with_reducible exact ih3 _ _ _ _ _)
   | (with_reducible exact ih4 _ _ _ _ _ _ _)
   | (with_reducible exact ih5 _ _ _ _ _ _ _)
   | (with_reducible exact event_Decode.mono _ _ _)
   | (with_reducible exact event_Encode.mono _ _ _ _ _)
   | (with_reducible exact shuttlecocklaw04_fixed.mono _)
   | (with_reducible exact shuttlecockref04_Same.mono _ _ _ _ _ _ _ _ _)
   | (with_reducible exact shuttlecockref04_Short.mono _ _)
   | (with_reducible exact LeO.refl _)
   | (with_reducible exact LeO.none _)
   | (with_reducible refine LeO.ite ?_ ?_)
   | (with_reducible refine LeO.bind ?_ (fun _ => ?_))
   | exact ih0 _ _ _ _
   | exact ih1 _ _ _
   | exact ih2 _ _ _ _
   | exact ih3 _ _ _ _ _
   | exact ih4 _ _ _ _ _ _ _
   | exact ih5 _ _ _ _ _ _ _
   | exact event_Decode.mono _ _ _
   | exact event_Encode.mono _ _ _ _ _
   | exact shuttlecocklaw04_fixed.mono _
   | exact shuttlecockref04_Same.mono _ _ _ _ _ _ _ _ _
   | exact shuttlecockref04_Short.mono _ _
   | exact LeO.none _
   | refine LeO.ite ?_ ?_
   | refine LeO.bind ?_ (fun _ => ?_)
  ·
   intro y0 y1 y2 y3
   unfold shuttlecocklaw04_EventBack.l0
   repeat' first
   | (with_reducible exact ih0 _ _ _ _)
   | (with_reducible exact ih1 _ _ _)
   | (with_reducible exact ih2 _ _ _ _)
   | (with_reducible exact ih3 _ _ _ _ _)
   | (with_reducible exact ih4 _ _ _ _ _ _ _)
   | (with_reducible exact ih5 _ _ _ _ _ _ _)
   | (with_reducible exact event_Decode.mono _ _ _)
   | (with_reducible exact event_Encode.mono _ _ _ _ _)
   | (with_reducible exact shuttlecocklaw04_fixed.mono _)
   | (with_reducible exact shuttlecockref04_Same.mono _ _ _ _ _ _ _ _ _)
   | (with_reducible exact shuttlecockref04_Short.mono _ _)
   | (with_reducible exact LeO.refl _)
   | (with_reducible exact LeO.none _)
   | (with_reducible refine LeO.ite ?_ ?_)
   | (with_reducible refine LeO.bind ?_ (fun _ => ?_))
   | exact ih0 _ _ _ _
   | exact ih1 _ _ _
   | exact ih2 _ _ _ _
   | exact ih3 _ _ _ _ _
   | exact ih4 _ _ _ _ _ _ _
   | exact ih5 _ _ _ _ _ _ _
   | exact event_Decode.mono _ _ _
   | exact event_Encode.mono _ _ _ _ _
   | exact shuttlecocklaw04_fixed.mono _
   | exact shuttlecockref04_Same.mono _ _ _ _ _ _ _ _ _
   | exact shuttlecockref04_Short.mono _ _
   | exact LeO.none _
   | refine LeO.ite ?_ ?_
   | refine LeO.bind ?_ (fun _ => ?_)
  ·
   intro y0 y1 y2 y3 y4
   unfold shuttlecocklaw04_EventBack.l1
   repeat' first
   | (with_reducible exact ih0 _ _ _ _)
   | (with_reducible exact ih1 _ _ _)
   | (with_reducible exact ih2 _ _ _ _)
   | (with_reducible exact ih3 _ _ _ _ _)
   | (with_reducible exact ih4 _ _ _ _ _ _ _)
   | (with_reducible exact ih5 _ _ _ _ _ _ _)
   | (with_reducible exact event_Decode.mono _ _ _)
   | (with_reducible exact event_Encode.mono _ _ _ _ _)
   | (with_reducible exact shuttlecocklaw04_fixed.mono _)
   | (with_reducible exact shuttlecockref04_Same.mono _ _ _ _ _ _ _ _ _)
   | (with_reducible exact shuttlecockref04_Short.mono _ _)
   | (with_reducible exact LeO.refl _)
   | (with_reducible exact LeO.none _)
   | (with_reducible refine LeO.ite ?_ ?_)
   | (with_reducible refine LeO.bind ?_ (fun _ => ?_))
   | exact ih0 _ _ _ _
   | exact ih1 _ _ _
   | exact ih2 _ _ _ _
   | exact ih3 _ _ _ _ _
   | exact ih4 _ _ _ _ _ _ _
   | exact ih5 _ _ _ _ _ _ _
   | exact event_Decode.mono _ _ _
   | exact event_Encode.mono _ _ _ _ _
   | exact shuttlecocklaw04_fixed.mono _
   | exact shuttlecockref04_Same.mono _ _ _ _ _ _ _ _ _
   | exact shuttlecockref04_Short.mono _ _
   | exact LeO.none _
   | refine LeO.ite ?_ ?_
   | refine LeO.bind ?_ (fun _ => ?_)
  ·
   intro y0 y1 y2 y3 y4 y5 y6
   unfold shuttlecocklaw04_EventBack.j4
   repeat' first
   | (with_reducible exact ih0 _ _ _ _)
   | (with_reducible exact ih1 _ _ _)
   | (with_reducible exact ih2 _ _ _ _)
   | (with_reducible exact ih3 _ _ _ _ _)
   | (with_reducible exact ih4 _ _ _ _ _ _ _)
   | (with_reducible exact ih5 _ _ _ _ _ _ _)
   | (with_reducible exact event_Decode.mono _ _ _)
   | (with_reducible exact event_Encode.mono _ _ _ _ _)
   | (with_reducible exact shuttlecocklaw04_fixed.mono _)
   | (with_reducible exact shuttlecockref04_Same.mono _ _ _ _ _ _ _ _ _)
   | (with_reducible exact shuttlecockref04_Short.mono _ _)
   | (with_reducible exact LeO.refl _)
   | (with_reducible exact LeO.none _)
   | (with_reducible refine LeO.ite ?_ ?_)
   | (with_reducible refine LeO.bind ?_ (fun _ => ?_))
   | exact ih0 _ _ _ _
   | exact ih1 _ _ _
   | exact ih2 _ _ _ _
   | exact ih3 _ _ _ _ _
   | exact ih4 _ _ _ _ _ _ _
   | exact ih5 _ _ _ _ _ _ _
   | exact event_Decode.mono _ _ _
   | exact event_Encode.mono _ _ _ _ _
   | exact shuttlecocklaw04_fixed.mono _
   | exact shuttlecockref04_Same.mono _ _ _ _ _ _ _ _ _
   | exact shuttlecockref04_Short.mono _ _
   | exact LeO.none _
   | refine LeO.ite ?_ ?_
   | refine LeO.bind ?_ (fun _ => ?_)
  ·
   intro y0 y1 y2 y3 y4 y5 y6
   unfold shuttlecocklaw04_EventBack.j5
   repeat' first
   | (with_reducible exact ih0 _ _ _ _)
   | (with_reducible exact ih1 _ _ _)
   | (with_reducible exact ih2 _ _ _ _)
   | (with_reducible exact ih3 _ _ _ _ _)
   | (with_reducible exact ih4 _ _ _ _ _ _ _)
   | (with_reducible exact ih5 _ _ _ _ _ _ _)
   | (with_reducible exact event_Decode.mono _ _ _)
   | (with_reducible exact event_Encode.mono _ _ _ _ _)
   | (with_reducible exact shuttlecocklaw04_fixed.mono _)
   | (with_reducible exact shuttlecockref04_Same.mono _ _ _ _ _ _ _ _ _)
   | (with_reducible exact shuttlecockref04_Short.mono _ _)
   | (with_reducible exact LeO.refl _)
   | (with_reducible exact LeO.none _)
   | (with_reducible refine LeO.ite ?_ ?_)
   | (with_reducible refine LeO.bind ?_ (fun _ => ?_))
   | exact ih0 _ _ _ _
   | exact ih1 _ _ _
   | exact ih2 _ _ _ _
   | exact ih3 _ _ _ _ _
   | exact ih4 _ _ _ _ _ _ _
   | exact ih5 _ _ _ _ _ _ _
   | exact event_Decode.mono _ _ _
   | exact event_Encode.mono _ _ _ _ _
   | exact shuttlecocklaw04_fixed.mono _
   | exact shuttlecockref04_Same.mono _ _ _ _ _ _ _ _ _
   | exact shuttlecockref04_Short.mono _ _
   | exact LeO.none _
   | refine LeO.ite ?_ ?_
   | refine LeO.bind ?_ (fun _ => ?_)
theorem shuttlecocklaw04_EventBack.mono : ∀ a0 a1 a2 k, LeO (shuttlecocklaw04_EventBack.f k a0 a1 a2) (shuttlecocklaw04_EventBack.f (k + 1) a0 a1 a2) := by
 intro a0 a1 a2 k
 obtain ⟨ih0, ih1, ih2, ih3, ih4, ih5⟩ := shuttlecocklaw04_EventBack.mono_l k
 unfold shuttlecocklaw04_EventBack.f
 repeat' first
   | (with_reducible exact ih0 _ _ _ _)
   | (with_reducible exact ih1 _ _ _)
   | (with_reducible exact ih2 _ _ _ _)
   | (with_reducible exact ih3 _ _ _ _ _)
   | (with_reducible exact ih4 _ _ _ _ _ _ _)
   | (with_reducible exact ih5 _ _ _ _ _ _ _)
   | (with_reducible exact event_Decode.mono _ _ _)
   | (with_reducible exact event_Encode.mono _ _ _ _ _)
   | (with_reducible exact shuttlecocklaw04_fixed.mono _)
   | (with_reducible exact shuttlecockref04_Same.mono _ _ _ _ _ _ _ _ _)
   | (with_reducible exact shuttlecockref04_Short.mono _ _)
   | (with_reducible exact LeO.refl _)
   | (with_reducible exact LeO.none _)
   | (with_reducible refine LeO.ite ?_ ?_)
   | (with_reducible refine LeO.bind ?_ (fun _ => ?_))
   | exact ih0 _ _ _ _
   | exact ih1 _ _ _
   | exact ih2 _ _ _ _
   | exact ih3 _ _ _ _ _
   | exact ih4 _ _ _ _ _ _ _
   | exact ih5 _ _ _ _ _ _ _
   | exact event_Decode.mono _ _ _
   | exact event_Encode.mono _ _ _ _ _
   | exact shuttlecocklaw04_fixed.mono _
   | exact shuttlecockref04_Same.mono _ _ _ _ _ _ _ _ _
   | exact shuttlecockref04_Short.mono _ _
   | exact LeO.none _
   | refine LeO.ite ?_ ?_
   | refine LeO.bind ?_ (fun _ => ?_)
def shuttlecocklaw04_EventBack.T4 : Bool × List (List Nat × List Nat) := (true, [([], []), ([0], [0]), ([1], [1]), ([2], [2]), ([3, 2, 2], [2, 3]), ([4, 2], [2, 4]), ([5, 4, 2], [2, 5]), ([6], [6]), ([6], [6]), ([8, 6], [6, 8]), ([7, 9, 6], [6, 7, 9]), ([6, 10, 2], [2, 6, 10]), ([11, 6, 2], [2, 11]), ([12], [12]), ([13, 12, 12], [12, 13]), ([12], [12]), ([12], [12]), ([12], [12]), ([17, 12], [12, 17]), ([16, 18, 12], [12, 16, 18]), ([15, 19, 12], [12, 15, 19]), ([14, 20, 12], [12, 14, 20]), ([12, 21, 2], [2, 12, 21]), ([2, 22], [2, 22])])
def shuttlecocklaw04_EventBack.B4 : List Nat := [0, 1, 3, 7, 15, 31, 63, 127, 127, 383, 1023, 2047, 4095, 8191, 16383, 8191, 8191, 8191, 139263, 466943, 1023999, 2097151, 4194303, 8388607]
theorem shuttlecocklaw04_EventBack.tab4 : rtab .any (opsOf Try.f4 4) = shuttlecocklaw04_EventBack.T4 := by kernel_rfl
theorem shuttlecocklaw04_EventBack.bits4 : waitsOk shuttlecocklaw04_EventBack.T4.2 shuttlecocklaw04_EventBack.B4 = true := by kernel_rfl
def shuttlecocklaw04_EventBack.T18 : Bool × List (List Nat × List Nat) := (true, [([], []), ([0], [0]), ([1], [1]), ([2], [2]), ([2], [2]), ([2], [2]), ([4, 5, 2], [2, 4, 5]), ([6, 2], [2, 6]), ([3, 7, 2, 2], [2, 3, 7]), ([8, 2], [2, 8]), ([2, 9], [2, 9])])
def shuttlecocklaw04_EventBack.B18 : List Nat := [0, 1, 3, 7, 7, 7, 55, 119, 255, 511, 1023]
theorem shuttlecocklaw04_EventBack.tab18 : rtab .any (opsOf Try.f4 18) = shuttlecocklaw04_EventBack.T18 := by kernel_rfl
theorem shuttlecocklaw04_EventBack.bits18 : waitsOk shuttlecocklaw04_EventBack.T18.2 shuttlecocklaw04_EventBack.B18 = true := by kernel_rfl
set_option maxHeartbeats 8000000 in
set_option maxRecDepth 100000 in
theorem shuttlecocklaw04_EventBack.calls (k : Nat) (A0 : Option Addr) (c0 : Nat) (l0 : List (S24)) (a1 : Int) (a2 : ByteArray) (r : Bool) (w : World) (hr0 : Kd.C k24 w A0 l0.length l0) (hc0 : l0.length ≤ c0) (h : shuttlecocklaw04_EventBack.f k l0 a1 a2 = some r) :
  Calls Try.prog 4 #[.slice A0 l0.length c0, .int .i64 a1, .string a2] w fun e w' => e = .returned (.bool r) ∧ Below w.heap.size w w' := by
 have hu24 := Try.underlying24
 have HR0 := Am hr0
 have HC0 := Am hc0
 clear hr0 hc0
 have HB := Am (Below.refl w.heap.size w)
 have H : ((shuttlecocklaw04_fixed.f k).bind fun t387 => (if t387 = true then ((shuttlecockref04_Short.f k l0).bind fun t388 => (if t388 = true then (shuttlecocklaw04_EventBack.j0 k l0 a1 a2 (decide ((a2.size : Int) > 5000))) else (shuttlecocklaw04_EventBack.j0 k l0 a1 a2 true))) else (shuttlecocklaw04_EventBack.j0 k l0 a1 a2 true))) = some r := h
 clear h
 have HC4 := Am H
 clear H
 go_enter Try.func4, Try.ntmps4
 go_upto_region 1 with (fail)
 go_cut [31] (fun v31 wc => ∃ (kq : Nat) (x31_3 : Bool), v31 = .bool x31_3 ∧ Aside0 (shuttlecocklaw04_EventBack.j0 kq l0 a1 a2 x31_3 = some r) ∧ Aside0 (kq ≤ k) ∧ Aside0 (Below w.heap.size w wc))
 case first =>
  have H := HC4.out
  clear HC4
  replace H := ob H
  obtain ⟨t387, A50, H⟩ := H
  replace H : (if t387 = true then ((shuttlecockref04_Short.f k l0).bind fun t388 => (if t388 = true then (shuttlecocklaw04_EventBack.j0 k l0 a1 a2 (decide ((a2.size : Int) > 5000))) else (shuttlecocklaw04_EventBack.j0 k l0 a1 a2 true))) else (shuttlecocklaw04_EventBack.j0 k l0 a1 a2 true)) = some r := H
  have A5 := Am A50
  clear A50
  by_cases c6 : t387 = true
  ·
   subst c6
   have H1 : ((shuttlecockref04_Short.f k l0).bind fun t388 => (if t388 = true then (shuttlecocklaw04_EventBack.j0 k l0 a1 a2 (decide ((a2.size : Int) > 5000))) else (shuttlecocklaw04_EventBack.j0 k l0 a1 a2 true))) = some r := by rw [if_pos rfl] at H; exact H
   clear H
   have H := H1
   clear H1
   replace H := ob H
   obtain ⟨t388, A70, H⟩ := H
   replace H : (if t388 = true then (shuttlecocklaw04_EventBack.j0 k l0 a1 a2 (decide ((a2.size : Int) > 5000))) else (shuttlecocklaw04_EventBack.j0 k l0 a1 a2 true)) = some r := H
   have A7 := Am A70
   clear A70
   by_cases c8 : t388 = true
   ·
    subst c8
    have H1 : (shuttlecocklaw04_EventBack.j0 k l0 a1 a2 (decide ((a2.size : Int) > 5000))) = some r := by rw [if_pos rfl] at H; exact H
    clear H
    have H := H1
    clear H1
    have H' := Am H
    clear H
    go_wp2_with (first | ((with_reducible refine gate_callee (f := 9) rfl ?_); refine goesL_ (some 20) rfl rfl Try.func9 (by kernel_rfl) rfl #[] rfl (by (try simp only [List.map_toArray, List.map_cons, List.map_nil]); first | done | rfl | (simp only [List.length_drop, List.length_take]; rfl)) ?_; (with_reducible refine (shuttlecocklaw04_fixed.calls k  true _ A5.out).mono ?_); rintro e w9 ⟨rfl, hb⟩; refine ⟨_, rfl, ?_⟩; have n0_ := Am (below_step (by repeat (first | (with_reducible first | exact HB.out | apply bl | apply pN | apply b1) | exact HB.out | exact HBo.out)) hb); clear HB; have HB := n0_; clear n0_; (try clear hb); (try clear hb2); (try clear hk); (try clear hi)) | (go_at_call 8; (with_reducible refine (shuttlecockref04_Short.calls k _ _ l0 true _ ?side1 ?side2 A7.out).mono ?_); (case side1 => repeat (first | exact (Kd.C_below HR0.out HB.out) | (with_reducible refine Kd.C_alloc ?_ _) | (with_reducible refine Kd.C_drewN ?_ _) | (with_reducible refine Kd.C_drew ?_))); (case side2 => exact HC0.out); rintro e w' ⟨rfl, ⟨nd, rfl⟩⟩))
    go_meet
    case rel => exact ⟨_, (decide ((a2.size : Int) > 5000)), (by first | rfl | (simp; done) | (simp [*]; done)), H', ⟨by first | omega | exact Nat.le_refl _⟩, ⟨by repeat (first | (with_reducible first | exact HB.out | apply bl | apply pN | apply b1) | exact HB.out | exact HBo.out)⟩⟩
   ·
    replace c8 := Bool.eq_false_iff.mpr c8
    subst c8
    have H1 : (shuttlecocklaw04_EventBack.j0 k l0 a1 a2 true) = some r := by rw [if_neg (show ¬ (false = true) by decide)] at H; exact H
    clear H
    have H := H1
    clear H1
    have H' := Am H
    clear H
    go_wp2_with (first | ((with_reducible refine gate_callee (f := 9) rfl ?_); refine goesL_ (some 20) rfl rfl Try.func9 (by kernel_rfl) rfl #[] rfl (by (try simp only [List.map_toArray, List.map_cons, List.map_nil]); first | done | rfl | (simp only [List.length_drop, List.length_take]; rfl)) ?_; (with_reducible refine (shuttlecocklaw04_fixed.calls k  true _ A5.out).mono ?_); rintro e w10 ⟨rfl, hb⟩; refine ⟨_, rfl, ?_⟩; have n0_ := Am (below_step (by repeat (first | (with_reducible first | exact HB.out | apply bl | apply pN | apply b1) | exact HB.out | exact HBo.out)) hb); clear HB; have HB := n0_; clear n0_; (try clear hb); (try clear hb2); (try clear hk); (try clear hi)) | (go_at_call 8; (with_reducible refine (shuttlecockref04_Short.calls k _ _ l0 false _ ?side1 ?side2 A7.out).mono ?_); (case side1 => repeat (first | exact (Kd.C_below HR0.out HB.out) | (with_reducible refine Kd.C_alloc ?_ _) | (with_reducible refine Kd.C_drewN ?_ _) | (with_reducible refine Kd.C_drew ?_))); (case side2 => exact HC0.out); rintro e w' ⟨rfl, ⟨nd, rfl⟩⟩))
    go_meet
    case rel => exact ⟨_, (true), (by first | rfl | (simp; done) | (simp [*]; done)), H', ⟨by first | omega | exact Nat.le_refl _⟩, ⟨by repeat (first | (with_reducible first | exact HB.out | apply bl | apply pN | apply b1) | exact HB.out | exact HBo.out)⟩⟩
  ·
   replace c6 := Bool.eq_false_iff.mpr c6
   subst c6
   have H1 : (shuttlecocklaw04_EventBack.j0 k l0 a1 a2 true) = some r := by rw [if_neg (show ¬ (false = true) by decide)] at H; exact H
   clear H
   have H := H1
   clear H1
   have H' := Am H
   clear H
   go_wp2_with (first | ((with_reducible refine gate_callee (f := 9) rfl ?_); refine goesL_ (some 20) rfl rfl Try.func9 (by kernel_rfl) rfl #[] rfl (by (try simp only [List.map_toArray, List.map_cons, List.map_nil]); first | done | rfl | (simp only [List.length_drop, List.length_take]; rfl)) ?_; (with_reducible refine (shuttlecocklaw04_fixed.calls k  false _ A5.out).mono ?_); rintro e w11 ⟨rfl, hb⟩; refine ⟨_, rfl, ?_⟩; have n0_ := Am (below_step (by repeat (first | (with_reducible first | exact HB.out | apply bl | apply pN | apply b1) | exact HB.out | exact HBo.out)) hb); clear HB; have HB := n0_; clear n0_; (try clear hb); (try clear hb2); (try clear hk); (try clear hi)))
   go_meet
   case rel => exact ⟨_, (true), (by first | rfl | (simp; done) | (simp [*]; done)), H', ⟨by first | omega | exact Nat.le_refl _⟩, ⟨by repeat (first | (with_reducible first | exact HB.out | apply bl | apply pN | apply b1) | exact HB.out | exact HBo.out)⟩⟩
 case rest =>
  clear HC4
  try clear p2
  try clear c4
  try clear c6
  try clear c8
  try clear c9
  obtain ⟨kq, x31_3, rfl, HA, HJ3, HB⟩ := hcut
  cases kq with
  | zero => exact absurd HA.out (by simp [shuttlecocklaw04_EventBack.j0])
  | succ kj3 =>
   have H := HA.out
   clear HA
   simp only [shuttlecocklaw04_EventBack.j0] at H
   by_cases c12 : x31_3 = true
   ·
    subst c12
    have H1 : ((shuttlecocklaw04_fixed.f kj3).bind fun t389 => (some t389)) = some r := by rw [if_pos rfl] at H; exact H
    clear H
    have H := H1
    clear H1
    replace H := ob H
    obtain ⟨t389, A130, H⟩ := H
    replace H : (some t389) = some r := H
    have A13 := Am A130
    clear A130
    obtain rfl := Option.some.inj H
    go_wp2_with (first | ((with_reducible refine gate_callee (f := 9) rfl ?_); refine goesL_ (some 32) rfl rfl Try.func9 (by kernel_rfl) rfl #[] rfl (by (try simp only [List.map_toArray, List.map_cons, List.map_nil]); first | done | rfl | (simp only [List.length_drop, List.length_take]; rfl)) ?_; (with_reducible refine (shuttlecocklaw04_fixed.calls kj3  t389 _ A13.out).mono ?_); rintro e w14 ⟨rfl, hb⟩; refine ⟨_, rfl, ?_⟩; have n0_ := Am (below_step (by repeat (first | (with_reducible first | exact HB.out | apply bl | apply pN | apply b1) | exact HB.out | exact HBo.out)) hb); clear HB; have HB := n0_; clear n0_; (try clear hb); (try clear hb2); (try clear hk); (try clear hi)))
    go_ret
    exact ⟨by first | rfl | (simp [errW_none, errW_some] <;> rfl) | (simp [*, errW_none, errW_some] <;> rfl) | (simp [Aid.ne_nil, Aid.eq_nil, errW_none, errW_some]; done), by repeat (first | (with_reducible first | exact HB.out | apply bl | apply pN | apply b1) | exact HB.out | exact HBo.out)⟩
   ·
    replace c12 := Bool.eq_false_iff.mpr c12
    subst c12
    have H1 : ((event_Decode.f kj3 a2 0).bind fun bt390 => (if bt390.2.2.2.2.2 = 0 then ((event_May.f bt390.1 bt390.2.1 bt390.2.2.1 bt390.2.2.2.1).bind fun t399 => (if t399 = true then (if bt390.2.2.2.2.1 > (a2.size : Int) then (shuttlecocklaw04_EventBack.j1 kj3 l0 a1 true) else ((event_Encode.f kj3 bt390.1 bt390.2.1 bt390.2.2.1 bt390.2.2.2.1).bind fun t400 => (if 0 ≤ (mn bt390.2.2.2.2.1 (a2.size : Int)) then (if (mn bt390.2.2.2.2.1 (a2.size : Int)) ≤ (a2.size : Int) then (shuttlecocklaw04_EventBack.j1 kj3 l0 a1 (t400.toList != (a2.extract 0 ((mn bt390.2.2.2.2.1 (a2.size : Int)) : Int).toNat).toList)) else (none)) else (none)))) else (shuttlecocklaw04_EventBack.j1 kj3 l0 a1 true))) else (shuttlecocklaw04_EventBack.j1 kj3 l0 a1 false))) = some r := by rw [if_neg (show ¬ (false = true) by decide)] at H; exact H
    clear H
    have H := H1
    clear H1
    replace H := ob H
    obtain ⟨⟨t390, t391, t392, t395, t396, t397⟩, A150, H⟩ := H
    replace H : (if t397 = 0 then ((event_May.f t390 t391 t392 t395).bind fun t399 => (if t399 = true then (if t396 > (a2.size : Int) then (shuttlecocklaw04_EventBack.j1 kj3 l0 a1 true) else ((event_Encode.f kj3 t390 t391 t392 t395).bind fun t400 => (if 0 ≤ (mn t396 (a2.size : Int)) then (if (mn t396 (a2.size : Int)) ≤ (a2.size : Int) then (shuttlecocklaw04_EventBack.j1 kj3 l0 a1 (t400.toList != (a2.extract 0 ((mn t396 (a2.size : Int)) : Int).toNat).toList)) else (none)) else (none)))) else (shuttlecocklaw04_EventBack.j1 kj3 l0 a1 true))) else (shuttlecocklaw04_EventBack.j1 kj3 l0 a1 false)) = some r := H
    have A15 := Am A150
    clear A150
    have HC16 := Am H
    clear H
    go_upto_region 4 with (first | ((with_reducible refine gate_callee (f := 10) rfl ?_); refine goesL_ (some 35) rfl rfl Try.func10 (by kernel_rfl) rfl #[.string a2, .int .i64 0] rfl (by (try simp only [List.map_toArray, List.map_cons, List.map_nil]); first | done | rfl | (simp only [List.length_drop, List.length_take]; rfl)) ?_; (with_reducible refine (event_Decode.calls kj3 a2 0 t390 t391 t392 t395 t396 t397 _ A15.out).mono ?_); rintro e w17 ⟨v393, rfl, ho0, hb⟩; refine ⟨_, rfl, ?_⟩; have n0_ := Am (Kd.R_lower ho0 (below_size (by repeat (first | (with_reducible first | exact HB.out | apply bl | apply pN | apply b1) | exact HB.out | exact HBo.out)))); have n1_ := Am (below_step (by repeat (first | (with_reducible first | exact HB.out | apply bl | apply pN | apply b1) | exact HB.out | exact HBo.out)) hb); clear HB; have HO394 := n0_; have HB := n1_; clear n0_ n1_; (try clear hb); (try clear hb2); (try clear hk); (try clear hi); (try clear ho0)) | ((with_reducible refine gate_dst (N := 7) rfl ?_); (try (refine gate_guard (by rfl) ?_; dsimp only)); refine box_event ?hg (N := 7) ?hd (cs := #[.int .i64 0, .int .i64 0, .slice none 0 0, .string (⟨#[]⟩ : ByteArray)]) (t := 24) ?hr ?_; (case hd => rfl); (case hg => rfl); (case hr => first | (go_simp; done) | (go_simp; rfl)); intro gb398 hg w18 hbox hb; have n0_ := Am (Kd.R_below (by (with_reducible repeat (first | apply Kd.R_alloc | apply Kd.R_drewN | apply Kd.R_drew)); exact HO394.out) hb); have n1_ := Am (below_step (by repeat (first | (with_reducible first | exact HB.out | apply bl | apply pN | apply b1) | exact HB.out | exact HBo.out)) hb); have n2_ := Am (hbox); have n3_ := Am ((by rw [hg]; exact (below_size (by repeat (first | (with_reducible first | exact HB.out | apply bl | apply pN | apply b1) | exact HB.out | exact HBo.out))) : w.heap.size ≤ gb398)); have n4_ := Am ((by rw [hg]; exact (below_size (by repeat (first | (with_reducible first | exact HB.out | apply bl | apply pN | apply b1) | exact HB.out | exact HBo.out))) : w.heap.size ≤ gb398)); clear HO394; clear HB; have HO394 := n0_; have HB := n1_; have BK398 := n2_; have GW398 := n3_; have GE398 := n4_; clear n0_ n1_ n2_ n3_ n4_; clear hb hbox hg; have hcz19_0 : w18.cell? ⟨gb398, 0, none⟩ = some (.int .i64 0) := (bc BK398.out 0).trans rfl; have hcz19_1 : w18.cell? ⟨gb398, 1, none⟩ = some (.int .i64 0) := (bc BK398.out 1).trans rfl; have hcz19_2 : w18.cell? ⟨gb398, 2, none⟩ = some (.slice none 0 0) := (bc BK398.out 2).trans rfl; have hcz19_3 : w18.cell? ⟨gb398, 3, none⟩ = some (.string (⟨#[]⟩ : ByteArray)) := (bc BK398.out 3).trans rfl; have hfz19_0 := bf BK398.out 0; have hfz19_1 := bf BK398.out 1; have hfz19_2 := bf BK398.out 2; have hfz19_3 := bf BK398.out 3; obtain ⟨Ao20, co20, eo20⟩ := Kd.R_slice HO394.out; subst eo20))
    (try simp only [Act.put, sI, sZ, sS])
    go_cut [62] (fun v62 wc => ∃ (kq : Nat) (x62_15 : Bool), v62 = .bool x62_15 ∧ Aside0 (shuttlecocklaw04_EventBack.j1 kq l0 a1 x62_15 = some r) ∧ Aside0 (kq ≤ kj3) ∧ Aside0 (Kd.R (Kd.int .i64) 3 wc w.heap.size (fun _ => True) (.slice Ao20 t392.length co20) t392) ∧ Aside0 (wc.heap[gb398]? = some (.cells #[.int .i64 t390, .int .i64 t391, (.slice Ao20 t392.length co20), .string t395] 24 (0, 0))) ∧ Aside0 (Below w.heap.size w wc))
    case first =>
     have H := HC16.out
     clear HC16
     by_cases c21 : t397 = 0
     ·
      rw [if_pos c21] at H
      have c21b0 : (t397 == 0) = true := beq_iff_eq.mpr c21
      have c21b1 : (t397 != 0) = false := bne_eq_false_iff_eq.mpr c21
      clear c21
      (first | rw [c21b0] | (simp only [i64_w, i32_w]; rw [c21b0]) | skip)
      replace H := ob H
      obtain ⟨t399, A220, H⟩ := H
      replace H : (if t399 = true then (if t396 > (a2.size : Int) then (shuttlecocklaw04_EventBack.j1 kj3 l0 a1 true) else ((event_Encode.f kj3 t390 t391 t392 t395).bind fun t400 => (if 0 ≤ (mn t396 (a2.size : Int)) then (if (mn t396 (a2.size : Int)) ≤ (a2.size : Int) then (shuttlecocklaw04_EventBack.j1 kj3 l0 a1 (t400.toList != (a2.extract 0 ((mn t396 (a2.size : Int)) : Int).toNat).toList)) else (none)) else (none)))) else (shuttlecocklaw04_EventBack.j1 kj3 l0 a1 true)) = some r := H
      have A22 := Am A220
      clear A220
      by_cases c23 : t399 = true
      ·
       subst c23
       have H1 : (if t396 > (a2.size : Int) then (shuttlecocklaw04_EventBack.j1 kj3 l0 a1 true) else ((event_Encode.f kj3 t390 t391 t392 t395).bind fun t400 => (if 0 ≤ (mn t396 (a2.size : Int)) then (if (mn t396 (a2.size : Int)) ≤ (a2.size : Int) then (shuttlecocklaw04_EventBack.j1 kj3 l0 a1 (t400.toList != (a2.extract 0 ((mn t396 (a2.size : Int)) : Int).toNat).toList)) else (none)) else (none)))) = some r := by rw [if_pos rfl] at H; exact H
       clear H
       have H := H1
       clear H1
       by_cases c24 : t396 > (a2.size : Int)
       ·
        rw [if_pos c24] at H
        have c24b0 : decide ((a2.size : Int) < t396) = true := decide_eq_true c24
        clear c24
        have H' := Am H
        clear H
        try go_wp2
        have n0_ : Aside0 (Kd.R (Kd.int .i64) 3 ((((w18.setCell ⟨gb398, 0, none⟩ (.int .i64 t390)).setCell ⟨gb398, 1, none⟩ (.int .i64 t391)).setCell ⟨gb398, 2, none⟩ (.slice Ao20 t392.length co20)).setCell ⟨gb398, 3, none⟩ (.string t395)) w.heap.size (fun _ => True) (.slice Ao20 t392.length co20) t392) := ⟨by (with_reducible repeat (first | apply Kd.R_alloc | apply Kd.R_drewN | apply Kd.R_drew)); exact Kd.R_mono (Kd.R_far (p := ⟨gb398, 3, none⟩) (Kd.R_far (p := ⟨gb398, 2, none⟩) (Kd.R_far (p := ⟨gb398, 1, none⟩) (Kd.R_far (p := ⟨gb398, 0, none⟩) (Kd.R_types HO394.out BK398.out (by decide)) (fun _ hk => hk.2) (.int .i64 t390)) (fun _ hk => hk.2) (.int .i64 t391)) (fun _ hk => hk.2) (.slice Ao20 t392.length co20)) (fun _ hk => hk.2) (.string t395)) (fun _ hk => trivial)⟩
        have n1_ : Aside0 (((((w18.setCell ⟨gb398, 0, none⟩ (.int .i64 t390)).setCell ⟨gb398, 1, none⟩ (.int .i64 t391)).setCell ⟨gb398, 2, none⟩ (.slice Ao20 t392.length co20)).setCell ⟨gb398, 3, none⟩ (.string t395)).heap[gb398]? = some (.cells #[.int .i64 t390, .int .i64 t391, .slice Ao20 t392.length co20, .string t395] 24 (0, 0))) := ⟨by (with_reducible repeat (first | refine bn ?_ _ | refine bd ?_ | refine ba ?_ _)); refine blk_put (cs := #[.int .i64 t390, .int .i64 t391, .slice Ao20 t392.length co20, .string (⟨#[]⟩ : ByteArray)]) ?_ 3 _ rfl; (with_reducible repeat (first | refine bn ?_ _ | refine bd ?_ | refine ba ?_ _)); refine blk_put (cs := #[.int .i64 t390, .int .i64 t391, .slice none 0 0, .string (⟨#[]⟩ : ByteArray)]) ?_ 2 _ rfl; (with_reducible repeat (first | refine bn ?_ _ | refine bd ?_ | refine ba ?_ _)); refine blk_put (cs := #[.int .i64 t390, .int .i64 0, .slice none 0 0, .string (⟨#[]⟩ : ByteArray)]) ?_ 1 _ rfl; (with_reducible repeat (first | refine bn ?_ _ | refine bd ?_ | refine ba ?_ _)); refine blk_put (cs := #[.int .i64 0, .int .i64 0, .slice none 0 0, .string (⟨#[]⟩ : ByteArray)]) ?_ 0 _ rfl; (with_reducible repeat (first | refine bn ?_ _ | refine bd ?_ | refine ba ?_ _)); exact BK398.out⟩
        have n2_ : Aside0 (Below w.heap.size w ((((w18.setCell ⟨gb398, 0, none⟩ (.int .i64 t390)).setCell ⟨gb398, 1, none⟩ (.int .i64 t391)).setCell ⟨gb398, 2, none⟩ (.slice Ao20 t392.length co20)).setCell ⟨gb398, 3, none⟩ (.string t395))) := ⟨by repeat (first | (with_reducible first | exact HB.out | apply bl | apply pN | apply b1 | refine bs ?_ GE398.out) | exact HB.out | exact HBo.out)⟩
        (try clear HO394)
        (try clear BK398)
        (try clear HB)
        generalize ((((w18.setCell ⟨gb398, 0, none⟩ (.int .i64 t390)).setCell ⟨gb398, 1, none⟩ (.int .i64 t391)).setCell ⟨gb398, 2, none⟩ (.slice Ao20 t392.length co20)).setCell ⟨gb398, 3, none⟩ (.string t395)) = w25 at n0_ n1_ n2_ ⊢
        have HO394 := n0_
        have BK398 := n1_
        have HB := n2_
        clear n0_ n1_ n2_
        have n0_ := Am (Kd.R_drew HO394.out)
        have n1_ := Am (bd BK398.out)
        have n2_ := Am (b1 HB.out)
        clear HO394
        clear BK398
        clear HB
        have HO394 := n0_
        have BK398 := n1_
        have HB := n2_
        clear n0_ n1_ n2_
        refine start_ (n := 24) (S := fun w' => w'.cell? ⟨gb398, 0, none⟩ = some (.int .i64 t390) ∧ w'.cell? ⟨gb398, 1, none⟩ = some (.int .i64 t391) ∧ w'.cell? ⟨gb398, 2, none⟩ = some (.slice Ao20 t392.length co20) ∧ w'.cell? ⟨gb398, 3, none⟩ = some (.string t395)) (ds := []) q15_0 (by kernel_rfl) rfl rfl ⟨(bc BK398.out 0).trans rfl, (bc BK398.out 1).trans rfl, (bc BK398.out 2).trans rfl, (bc BK398.out 3).trans rfl⟩ (fun hHeld => ?_); refine with_tabW shuttlecocklaw04_EventBack.tab4 shuttlecocklaw04_EventBack.bits4 (fun HT_ HW_ => ?_)
        generalize w25.drew = w26 at HO394 BK398 HB hHeld ⊢
        refine Own.pr_ 0 (some 39) q15_1 HT_ (h := ?_)
        refine Own.pr_ 1 (some 40) q15_2 HT_ (h := ?_)
        refine Own.pr_ 2 (some 41) q15_3 HT_ (h := ?_)
        refine Own.tk_ 3 (some 42) q15_4 HT_ HW_ hHeld (hy := by rintro w' ⟨s0, s1, s2, s3⟩; go_simp; with_reducible rfl) (h := ?_)
        refine one_ (i := 4) (N := some 43) q15_5 rfl rfl (one_of HT_.out (by kernel_rfl)) (by decide) (fun K hK => ?_)
        refine goes_ Try.func12 (by kernel_rfl) rfl #[.agg #[.int .i64 t390, .int .i64 t391, .slice Ao20 t392.length co20, .string t395]] (by rfl) rfl rfl (by (try simp only [List.map_toArray, List.map_cons, List.map_nil]); first | done | rfl | (simp only [List.length_drop, List.length_take]; rfl)) ?_
        with_reducible refine (event_May.calls t390 t391 _ _ t392 t395 true _ ?side1 ?side2 A22.out).mono ?_
        (case side1 => repeat (first | exact (Kd.R_reads' HO394.out).2.2 | (with_reducible refine Kd.C_alloc ?_ _) | (with_reducible refine Kd.C_drewN ?_ _) | (with_reducible refine Kd.C_drew ?_)))
        (case side2 => exact (Kd.R_reads' HO394.out).2.1)
        rintro e w27 ⟨rfl, hb⟩
        refine ⟨_, rfl, ?_⟩
        have n0_ := Am (Kd.R_below (by (with_reducible repeat (first | apply Kd.R_alloc | apply Kd.R_drewN | apply Kd.R_drew)); exact HO394.out) hb)
        have n1_ := Am (blk_below (g := gb398) (o := .cells #[.int .i64 t390, .int .i64 t391, .slice Ao20 t392.length co20, .string t395] 24 (0, 0)) (by (with_reducible repeat (first | refine bn ?_ _ | refine bd ?_ | refine ba ?_ _)); exact BK398.out) hb)
        have n2_ := Am (below_step (by repeat (first | (with_reducible first | exact HB.out | apply bl | apply pN | apply b1 | refine bs ?_ GE398.out) | exact HB.out | exact HBo.out)) hb)
        clear HO394
        clear BK398
        clear HB
        have HO394 := n0_
        have BK398 := n1_
        have HB := n2_
        clear n0_ n1_ n2_
        (try clear hb)
        (try clear hb2)
        (try clear hk)
        (try clear hi)
        refine hK.out _ _ ⟨(bc BK398.out 0).trans rfl, (bc BK398.out 1).trans rfl, (bc BK398.out 2).trans rfl, (bc BK398.out 3).trans rfl⟩ (fun hHeld => ?_)
        clear hK K
        refine norm_ (a' := ?_) ?_ ?_
        rotate_left
        ·
         show Act.put _ (some 43) _ = _
         simp only [Act.put, sI, sZ, sS, i64_w, i32_w]
         rfl
        refine Own.pr_ 5 (some 44) q15_6 HT_ (h := ?_)
        refine Own.pr_ 6 (some 45) q15_7 HT_ (h := ?_)
        refine Own.pr_ 7 (some 46) q15_8 HT_ (h := ?_)
        refine Own.pr_ 8 (some 47) q15_9 HT_ (h := ?_)
        refine Own.pr_ 9 (some 48) q15_10 HT_ (h := ?_)
        refine Own.pr_ 10 (some 49) q15_11 HT_ (h := ?_)
        refine Own.pr_ 11 (some 50) q15_12 HT_ (h := ?_)
        refine Own.pr_ 12 (some 51) q15_13 HT_ (h := ?_)
        refine Own.skips_ HT_.out [13, 14, 15, 16, 17, 18, 19, 20, 21] [some 52, some 53, some 54, some 55, some 56, some 57, some 58, some 59, some 60] 2 11 _ q15_14 _ ?_ _ rfl (by kernel_rfl) (fun _ _ _ _ h => h) (by kernel_rfl) ?_ ?_
        rotate_left
        ·
         simp only [Own.putU, Act.put, sI, sZ, sS]
         rfl
        refine Own.pr_ 22 (some 61) q15_15 HT_ (h := ?_)
        refine Own.pr_ 23 (some 62) q15_16 HT_ (h := ?_)
        refine done_ (done_of HT_.out (by kernel_rfl)) ?_
        try go_wp2
        go_meet
        case rel => exact ⟨_, (true), (by first | rfl | (simp; done) | (simp [*]; done)), H', ⟨by have := HJ3.out; first | omega | exact Nat.le_refl _⟩, ⟨by (with_reducible repeat (first | apply Kd.R_alloc | apply Kd.R_drewN | apply Kd.R_drew)); exact HO394.out⟩, ⟨by (with_reducible repeat (first | refine bn ?_ _ | refine bd ?_ | refine ba ?_ _)); exact BK398.out⟩, ⟨by repeat (first | (with_reducible first | exact HB.out | apply bl | apply pN | apply b1 | refine bs ?_ GE398.out) | exact HB.out | exact HBo.out)⟩⟩
       ·
        rw [if_neg c24] at H
        have c24b0 : decide ((a2.size : Int) < t396) = false := decide_eq_false c24
        clear c24
        replace H := ob H
        obtain ⟨t400, A280, H⟩ := H
        replace H : (if 0 ≤ (mn t396 (a2.size : Int)) then (if (mn t396 (a2.size : Int)) ≤ (a2.size : Int) then (shuttlecocklaw04_EventBack.j1 kj3 l0 a1 (t400.toList != (a2.extract 0 ((mn t396 (a2.size : Int)) : Int).toNat).toList)) else (none)) else (none)) = some r := H
        have A28 := Am A280
        clear A280
        obtain ⟨ji29, hji29⟩ : ∃ j_ : Int, (mn t396 (a2.size : Int)) = j_ := ⟨_, rfl⟩
        replace H : (if 0 ≤ (ji29) then (if (ji29) ≤ (a2.size : Int) then (shuttlecocklaw04_EventBack.j1 kj3 l0 a1 (t400.toList != (a2.extract 0 ((ji29) : Int).toNat).toList)) else (none)) else (none)) = some r := by first | (rw [hji29] at H; exact H) | (simp only [hji29] at H ⊢; exact H)
        (try rw [hji29] at A22)
        (try rw [hji29] at A28)
        have hji29_ : (if (a2.size : Int) < t396 then (a2.size : Int) else t396) = ji29 := hji29
        by_cases c30 : 0 ≤ (ji29)
        ·
         rw [if_pos c30] at H
         have c30b0 := eq_true c30
         have c30b1 : decide (0 ≤ (ji29)) = true := decide_eq_true c30
         clear c30
         by_cases c31 : (ji29) ≤ (a2.size : Int)
         ·
          rw [if_pos c31] at H
          have c31b0 := eq_true c31
          have c31b1 : decide ((ji29) ≤ (a2.size : Int)) = true := decide_eq_true c31
          clear c31
          have H' := Am H
          clear H
          try go_wp2
          have n0_ : Aside0 (Kd.R (Kd.int .i64) 3 ((((w18.setCell ⟨gb398, 0, none⟩ (.int .i64 t390)).setCell ⟨gb398, 1, none⟩ (.int .i64 t391)).setCell ⟨gb398, 2, none⟩ (.slice Ao20 t392.length co20)).setCell ⟨gb398, 3, none⟩ (.string t395)) w.heap.size (fun _ => True) (.slice Ao20 t392.length co20) t392) := ⟨by (with_reducible repeat (first | apply Kd.R_alloc | apply Kd.R_drewN | apply Kd.R_drew)); exact Kd.R_mono (Kd.R_far (p := ⟨gb398, 3, none⟩) (Kd.R_far (p := ⟨gb398, 2, none⟩) (Kd.R_far (p := ⟨gb398, 1, none⟩) (Kd.R_far (p := ⟨gb398, 0, none⟩) (Kd.R_types HO394.out BK398.out (by decide)) (fun _ hk => hk.2) (.int .i64 t390)) (fun _ hk => hk.2) (.int .i64 t391)) (fun _ hk => hk.2) (.slice Ao20 t392.length co20)) (fun _ hk => hk.2) (.string t395)) (fun _ hk => trivial)⟩
          have n1_ : Aside0 (((((w18.setCell ⟨gb398, 0, none⟩ (.int .i64 t390)).setCell ⟨gb398, 1, none⟩ (.int .i64 t391)).setCell ⟨gb398, 2, none⟩ (.slice Ao20 t392.length co20)).setCell ⟨gb398, 3, none⟩ (.string t395)).heap[gb398]? = some (.cells #[.int .i64 t390, .int .i64 t391, .slice Ao20 t392.length co20, .string t395] 24 (0, 0))) := ⟨by (with_reducible repeat (first | refine bn ?_ _ | refine bd ?_ | refine ba ?_ _)); refine blk_put (cs := #[.int .i64 t390, .int .i64 t391, .slice Ao20 t392.length co20, .string (⟨#[]⟩ : ByteArray)]) ?_ 3 _ rfl; (with_reducible repeat (first | refine bn ?_ _ | refine bd ?_ | refine ba ?_ _)); refine blk_put (cs := #[.int .i64 t390, .int .i64 t391, .slice none 0 0, .string (⟨#[]⟩ : ByteArray)]) ?_ 2 _ rfl; (with_reducible repeat (first | refine bn ?_ _ | refine bd ?_ | refine ba ?_ _)); refine blk_put (cs := #[.int .i64 t390, .int .i64 0, .slice none 0 0, .string (⟨#[]⟩ : ByteArray)]) ?_ 1 _ rfl; (with_reducible repeat (first | refine bn ?_ _ | refine bd ?_ | refine ba ?_ _)); refine blk_put (cs := #[.int .i64 0, .int .i64 0, .slice none 0 0, .string (⟨#[]⟩ : ByteArray)]) ?_ 0 _ rfl; (with_reducible repeat (first | refine bn ?_ _ | refine bd ?_ | refine ba ?_ _)); exact BK398.out⟩
          have n2_ : Aside0 (Below w.heap.size w ((((w18.setCell ⟨gb398, 0, none⟩ (.int .i64 t390)).setCell ⟨gb398, 1, none⟩ (.int .i64 t391)).setCell ⟨gb398, 2, none⟩ (.slice Ao20 t392.length co20)).setCell ⟨gb398, 3, none⟩ (.string t395))) := ⟨by repeat (first | (with_reducible first | exact HB.out | apply bl | apply pN | apply b1 | refine bs ?_ GE398.out) | exact HB.out | exact HBo.out)⟩
          (try clear HO394)
          (try clear BK398)
          (try clear HB)
          generalize ((((w18.setCell ⟨gb398, 0, none⟩ (.int .i64 t390)).setCell ⟨gb398, 1, none⟩ (.int .i64 t391)).setCell ⟨gb398, 2, none⟩ (.slice Ao20 t392.length co20)).setCell ⟨gb398, 3, none⟩ (.string t395)) = w32 at n0_ n1_ n2_ ⊢
          have HO394 := n0_
          have BK398 := n1_
          have HB := n2_
          clear n0_ n1_ n2_
          have n0_ := Am (Kd.R_drew HO394.out)
          have n1_ := Am (bd BK398.out)
          have n2_ := Am (b1 HB.out)
          clear HO394
          clear BK398
          clear HB
          have HO394 := n0_
          have BK398 := n1_
          have HB := n2_
          clear n0_ n1_ n2_
          refine start_ (n := 24) (S := fun w' => w'.cell? ⟨gb398, 0, none⟩ = some (.int .i64 t390) ∧ w'.cell? ⟨gb398, 1, none⟩ = some (.int .i64 t391) ∧ w'.cell? ⟨gb398, 2, none⟩ = some (.slice Ao20 t392.length co20) ∧ w'.cell? ⟨gb398, 3, none⟩ = some (.string t395)) (ds := []) q15_0 (by kernel_rfl) rfl rfl ⟨(bc BK398.out 0).trans rfl, (bc BK398.out 1).trans rfl, (bc BK398.out 2).trans rfl, (bc BK398.out 3).trans rfl⟩ (fun hHeld => ?_); refine with_tabW shuttlecocklaw04_EventBack.tab4 shuttlecocklaw04_EventBack.bits4 (fun HT_ HW_ => ?_)
          generalize w32.drew = w33 at HO394 BK398 HB hHeld ⊢
          refine Own.pr_ 0 (some 39) q15_1 HT_ (h := ?_)
          refine Own.pr_ 1 (some 40) q15_2 HT_ (h := ?_)
          refine Own.pr_ 2 (some 41) q15_3 HT_ (h := ?_)
          refine Own.tk_ 3 (some 42) q15_4 HT_ HW_ hHeld (hy := by rintro w' ⟨s0, s1, s2, s3⟩; go_simp; with_reducible rfl) (h := ?_)
          refine one_ (i := 4) (N := some 43) q15_5 rfl rfl (one_of HT_.out (by kernel_rfl)) (by decide) (fun K hK => ?_)
          refine goes_ Try.func12 (by kernel_rfl) rfl #[.agg #[.int .i64 t390, .int .i64 t391, .slice Ao20 t392.length co20, .string t395]] (by rfl) rfl rfl (by (try simp only [List.map_toArray, List.map_cons, List.map_nil]); first | done | rfl | (simp only [List.length_drop, List.length_take]; rfl)) ?_
          with_reducible refine (event_May.calls t390 t391 _ _ t392 t395 true _ ?side1 ?side2 A22.out).mono ?_
          (case side1 => repeat (first | exact (Kd.R_reads' HO394.out).2.2 | (with_reducible refine Kd.C_alloc ?_ _) | (with_reducible refine Kd.C_drewN ?_ _) | (with_reducible refine Kd.C_drew ?_)))
          (case side2 => exact (Kd.R_reads' HO394.out).2.1)
          rintro e w34 ⟨rfl, hb⟩
          refine ⟨_, rfl, ?_⟩
          have n0_ := Am (Kd.R_below (by (with_reducible repeat (first | apply Kd.R_alloc | apply Kd.R_drewN | apply Kd.R_drew)); exact HO394.out) hb)
          have n1_ := Am (blk_below (g := gb398) (o := .cells #[.int .i64 t390, .int .i64 t391, .slice Ao20 t392.length co20, .string t395] 24 (0, 0)) (by (with_reducible repeat (first | refine bn ?_ _ | refine bd ?_ | refine ba ?_ _)); exact BK398.out) hb)
          have n2_ := Am (below_step (by repeat (first | (with_reducible first | exact HB.out | apply bl | apply pN | apply b1 | refine bs ?_ GE398.out) | exact HB.out | exact HBo.out)) hb)
          clear HO394
          clear BK398
          clear HB
          have HO394 := n0_
          have BK398 := n1_
          have HB := n2_
          clear n0_ n1_ n2_
          (try clear hb)
          (try clear hb2)
          (try clear hk)
          (try clear hi)
          refine hK.out _ _ ⟨(bc BK398.out 0).trans rfl, (bc BK398.out 1).trans rfl, (bc BK398.out 2).trans rfl, (bc BK398.out 3).trans rfl⟩ (fun hHeld => ?_)
          clear hK K
          refine norm_ (a' := ?_) ?_ ?_
          rotate_left
          ·
           show Act.put _ (some 43) _ = _
           simp only [Act.put, sI, sZ, sS, i64_w, i32_w]
           rfl
          refine Own.pr_ 5 (some 44) q15_6 HT_ (h := ?_)
          refine Own.pr_ 6 (some 45) q15_7 HT_ (h := ?_)
          refine Own.pr_ 7 (some 46) q15_8 HT_ (h := ?_)
          refine Own.pr_ 8 (some 47) q15_9 HT_ (h := ?_)
          refine Own.pr_ 9 (some 48) q15_10 HT_ (h := ?_)
          refine Own.pr_ 10 (some 49) q15_11 HT_ (h := ?_)
          refine Own.pr_ 11 (some 50) q15_12 HT_ (h := ?_)
          refine Own.pr_ 12 (some 51) q15_13 HT_ (h := ?_)
          refine Own.pr_ 15 (some 54) q15_17 HT_ (h := ?_)
          refine Own.pr_ 16 (some 55) q15_18 HT_ (h := ?_)
          refine Own.pr_ 17 (some 56) q15_19 HT_ (h := ?_)
          refine Own.pr_ 18 (some 57) q15_20 HT_ (h := ?_)
          refine Own.pr_ 19 (some 58) q15_21 HT_ (h := ?_)
          refine Own.pr_ 20 (some 59) q15_22 HT_ (h := ?_)
          refine Own.tk_ 13 (some 52) q15_23 HT_ HW_ hHeld (hy := by rintro w' ⟨s0, s1, s2, s3⟩; go_simp; with_reducible rfl) (h := ?_)
          refine one_ (i := 14) (N := some 53) q15_24 rfl rfl (one_of HT_.out (by kernel_rfl)) (by decide) (fun K hK => ?_)
          refine goes_ Try.func14 (by kernel_rfl) rfl #[.agg #[.int .i64 t390, .int .i64 t391, .slice Ao20 t392.length co20, .string t395]] (by rfl) rfl rfl (by (try simp only [List.map_toArray, List.map_cons, List.map_nil]); first | done | rfl | (simp only [List.length_drop, List.length_take]; rfl)) ?_
          with_reducible refine (event_Encode.calls kj3 t390 t391 _ _ t392 t395 t400 _ ?side1 ?side2 A28.out).mono ?_
          (case side1 => repeat (first | exact (Kd.R_reads' HO394.out).2.2 | (with_reducible refine Kd.C_alloc ?_ _) | (with_reducible refine Kd.C_drewN ?_ _) | (with_reducible refine Kd.C_drew ?_)))
          (case side2 => exact (Kd.R_reads' HO394.out).2.1)
          rintro e w35 ⟨rfl, hb⟩
          refine ⟨_, rfl, ?_⟩
          have n0_ := Am (Kd.R_below (by (with_reducible repeat (first | apply Kd.R_alloc | apply Kd.R_drewN | apply Kd.R_drew)); exact HO394.out) hb)
          have n1_ := Am (blk_below (g := gb398) (o := .cells #[.int .i64 t390, .int .i64 t391, .slice Ao20 t392.length co20, .string t395] 24 (0, 0)) (by (with_reducible repeat (first | refine bn ?_ _ | refine bd ?_ | refine ba ?_ _)); exact BK398.out) hb)
          have n2_ := Am (below_step (by repeat (first | (with_reducible first | exact HB.out | apply bl | apply pN | apply b1 | refine bs ?_ GE398.out) | exact HB.out | exact HBo.out)) hb)
          clear HO394
          clear BK398
          clear HB
          have HO394 := n0_
          have BK398 := n1_
          have HB := n2_
          clear n0_ n1_ n2_
          (try clear hb)
          (try clear hb2)
          (try clear hk)
          (try clear hi)
          refine hK.out _ _ ⟨(bc BK398.out 0).trans rfl, (bc BK398.out 1).trans rfl, (bc BK398.out 2).trans rfl, (bc BK398.out 3).trans rfl⟩ (fun hHeld => ?_)
          clear hK K
          refine norm_ (a' := ?_) ?_ ?_
          rotate_left
          ·
           show Act.put _ (some 53) _ = _
           simp only [Act.put, sI, sZ, sS, i64_w, i32_w]
           rfl
          refine Own.pr_ 21 (some 60) q15_14 HT_ (h := ?_)
          refine Own.pr_ 22 (some 61) q15_15 HT_ (h := ?_)
          refine Own.pr_ 23 (some 62) q15_16 HT_ (h := ?_)
          refine done_ (done_of HT_.out (by kernel_rfl)) ?_
          try go_wp2
          go_meet
          case rel => exact ⟨_, ((t400.toList != (a2.extract 0 ((ji29) : Int).toNat).toList)), (by first | rfl | (simp; done) | (simp only [← hji29] <;> (first | rfl | simp)) | (simp [*]; done)), H', ⟨by have := HJ3.out; first | omega | exact Nat.le_refl _⟩, ⟨by (with_reducible repeat (first | apply Kd.R_alloc | apply Kd.R_drewN | apply Kd.R_drew)); exact HO394.out⟩, ⟨by (with_reducible repeat (first | refine bn ?_ _ | refine bd ?_ | refine ba ?_ _)); exact BK398.out⟩, ⟨by repeat (first | (with_reducible first | exact HB.out | apply bl | apply pN | apply b1 | refine bs ?_ GE398.out) | exact HB.out | exact HBo.out)⟩⟩
         ·
          rw [if_neg c31] at H
          exact absurd H (by simp)
        ·
         rw [if_neg c30] at H
         exact absurd H (by simp)
      ·
       replace c23 := Bool.eq_false_iff.mpr c23
       subst c23
       have H1 : (shuttlecocklaw04_EventBack.j1 kj3 l0 a1 true) = some r := by rw [if_neg (show ¬ (false = true) by decide)] at H; exact H
       clear H
       have H := H1
       clear H1
       have H' := Am H
       clear H
       try go_wp2
       have n0_ : Aside0 (Kd.R (Kd.int .i64) 3 ((((w18.setCell ⟨gb398, 0, none⟩ (.int .i64 t390)).setCell ⟨gb398, 1, none⟩ (.int .i64 t391)).setCell ⟨gb398, 2, none⟩ (.slice Ao20 t392.length co20)).setCell ⟨gb398, 3, none⟩ (.string t395)) w.heap.size (fun _ => True) (.slice Ao20 t392.length co20) t392) := ⟨by (with_reducible repeat (first | apply Kd.R_alloc | apply Kd.R_drewN | apply Kd.R_drew)); exact Kd.R_mono (Kd.R_far (p := ⟨gb398, 3, none⟩) (Kd.R_far (p := ⟨gb398, 2, none⟩) (Kd.R_far (p := ⟨gb398, 1, none⟩) (Kd.R_far (p := ⟨gb398, 0, none⟩) (Kd.R_types HO394.out BK398.out (by decide)) (fun _ hk => hk.2) (.int .i64 t390)) (fun _ hk => hk.2) (.int .i64 t391)) (fun _ hk => hk.2) (.slice Ao20 t392.length co20)) (fun _ hk => hk.2) (.string t395)) (fun _ hk => trivial)⟩
       have n1_ : Aside0 (((((w18.setCell ⟨gb398, 0, none⟩ (.int .i64 t390)).setCell ⟨gb398, 1, none⟩ (.int .i64 t391)).setCell ⟨gb398, 2, none⟩ (.slice Ao20 t392.length co20)).setCell ⟨gb398, 3, none⟩ (.string t395)).heap[gb398]? = some (.cells #[.int .i64 t390, .int .i64 t391, .slice Ao20 t392.length co20, .string t395] 24 (0, 0))) := ⟨by (with_reducible repeat (first | refine bn ?_ _ | refine bd ?_ | refine ba ?_ _)); refine blk_put (cs := #[.int .i64 t390, .int .i64 t391, .slice Ao20 t392.length co20, .string (⟨#[]⟩ : ByteArray)]) ?_ 3 _ rfl; (with_reducible repeat (first | refine bn ?_ _ | refine bd ?_ | refine ba ?_ _)); refine blk_put (cs := #[.int .i64 t390, .int .i64 t391, .slice none 0 0, .string (⟨#[]⟩ : ByteArray)]) ?_ 2 _ rfl; (with_reducible repeat (first | refine bn ?_ _ | refine bd ?_ | refine ba ?_ _)); refine blk_put (cs := #[.int .i64 t390, .int .i64 0, .slice none 0 0, .string (⟨#[]⟩ : ByteArray)]) ?_ 1 _ rfl; (with_reducible repeat (first | refine bn ?_ _ | refine bd ?_ | refine ba ?_ _)); refine blk_put (cs := #[.int .i64 0, .int .i64 0, .slice none 0 0, .string (⟨#[]⟩ : ByteArray)]) ?_ 0 _ rfl; (with_reducible repeat (first | refine bn ?_ _ | refine bd ?_ | refine ba ?_ _)); exact BK398.out⟩
       have n2_ : Aside0 (Below w.heap.size w ((((w18.setCell ⟨gb398, 0, none⟩ (.int .i64 t390)).setCell ⟨gb398, 1, none⟩ (.int .i64 t391)).setCell ⟨gb398, 2, none⟩ (.slice Ao20 t392.length co20)).setCell ⟨gb398, 3, none⟩ (.string t395))) := ⟨by repeat (first | (with_reducible first | exact HB.out | apply bl | apply pN | apply b1 | refine bs ?_ GE398.out) | exact HB.out | exact HBo.out)⟩
       (try clear HO394)
       (try clear BK398)
       (try clear HB)
       generalize ((((w18.setCell ⟨gb398, 0, none⟩ (.int .i64 t390)).setCell ⟨gb398, 1, none⟩ (.int .i64 t391)).setCell ⟨gb398, 2, none⟩ (.slice Ao20 t392.length co20)).setCell ⟨gb398, 3, none⟩ (.string t395)) = w36 at n0_ n1_ n2_ ⊢
       have HO394 := n0_
       have BK398 := n1_
       have HB := n2_
       clear n0_ n1_ n2_
       have n0_ := Am (Kd.R_drew HO394.out)
       have n1_ := Am (bd BK398.out)
       have n2_ := Am (b1 HB.out)
       clear HO394
       clear BK398
       clear HB
       have HO394 := n0_
       have BK398 := n1_
       have HB := n2_
       clear n0_ n1_ n2_
       refine start_ (n := 24) (S := fun w' => w'.cell? ⟨gb398, 0, none⟩ = some (.int .i64 t390) ∧ w'.cell? ⟨gb398, 1, none⟩ = some (.int .i64 t391) ∧ w'.cell? ⟨gb398, 2, none⟩ = some (.slice Ao20 t392.length co20) ∧ w'.cell? ⟨gb398, 3, none⟩ = some (.string t395)) (ds := []) q15_0 (by kernel_rfl) rfl rfl ⟨(bc BK398.out 0).trans rfl, (bc BK398.out 1).trans rfl, (bc BK398.out 2).trans rfl, (bc BK398.out 3).trans rfl⟩ (fun hHeld => ?_); refine with_tabW shuttlecocklaw04_EventBack.tab4 shuttlecocklaw04_EventBack.bits4 (fun HT_ HW_ => ?_)
       generalize w36.drew = w37 at HO394 BK398 HB hHeld ⊢
       refine Own.pr_ 0 (some 39) q15_1 HT_ (h := ?_)
       refine Own.pr_ 1 (some 40) q15_2 HT_ (h := ?_)
       refine Own.pr_ 2 (some 41) q15_3 HT_ (h := ?_)
       refine Own.tk_ 3 (some 42) q15_4 HT_ HW_ hHeld (hy := by rintro w' ⟨s0, s1, s2, s3⟩; go_simp; with_reducible rfl) (h := ?_)
       refine one_ (i := 4) (N := some 43) q15_5 rfl rfl (one_of HT_.out (by kernel_rfl)) (by decide) (fun K hK => ?_)
       refine goes_ Try.func12 (by kernel_rfl) rfl #[.agg #[.int .i64 t390, .int .i64 t391, .slice Ao20 t392.length co20, .string t395]] (by rfl) rfl rfl (by (try simp only [List.map_toArray, List.map_cons, List.map_nil]); first | done | rfl | (simp only [List.length_drop, List.length_take]; rfl)) ?_
       with_reducible refine (event_May.calls t390 t391 _ _ t392 t395 false _ ?side1 ?side2 A22.out).mono ?_
       (case side1 => repeat (first | exact (Kd.R_reads' HO394.out).2.2 | (with_reducible refine Kd.C_alloc ?_ _) | (with_reducible refine Kd.C_drewN ?_ _) | (with_reducible refine Kd.C_drew ?_)))
       (case side2 => exact (Kd.R_reads' HO394.out).2.1)
       rintro e w38 ⟨rfl, hb⟩
       refine ⟨_, rfl, ?_⟩
       have n0_ := Am (Kd.R_below (by (with_reducible repeat (first | apply Kd.R_alloc | apply Kd.R_drewN | apply Kd.R_drew)); exact HO394.out) hb)
       have n1_ := Am (blk_below (g := gb398) (o := .cells #[.int .i64 t390, .int .i64 t391, .slice Ao20 t392.length co20, .string t395] 24 (0, 0)) (by (with_reducible repeat (first | refine bn ?_ _ | refine bd ?_ | refine ba ?_ _)); exact BK398.out) hb)
       have n2_ := Am (below_step (by repeat (first | (with_reducible first | exact HB.out | apply bl | apply pN | apply b1 | refine bs ?_ GE398.out) | exact HB.out | exact HBo.out)) hb)
       clear HO394
       clear BK398
       clear HB
       have HO394 := n0_
       have BK398 := n1_
       have HB := n2_
       clear n0_ n1_ n2_
       (try clear hb)
       (try clear hb2)
       (try clear hk)
       (try clear hi)
       refine hK.out _ _ ⟨(bc BK398.out 0).trans rfl, (bc BK398.out 1).trans rfl, (bc BK398.out 2).trans rfl, (bc BK398.out 3).trans rfl⟩ (fun hHeld => ?_)
       clear hK K
       refine norm_ (a' := ?_) ?_ ?_
       rotate_left
       ·
        show Act.put _ (some 43) _ = _
        simp only [Act.put, sI, sZ, sS, i64_w, i32_w]
        rfl
       refine Own.pr_ 5 (some 44) q15_6 HT_ (h := ?_)
       refine Own.pr_ 6 (some 45) q15_7 HT_ (h := ?_)
       refine Own.skips_ HT_.out [7, 8, 9, 10] [some 46, some 47, some 48, some 49] 13 17 _ q15_11 _ ?_ _ rfl (by kernel_rfl) (fun _ _ _ _ h => h) (by kernel_rfl) ?_ ?_
       rotate_left
       ·
        simp only [Own.putU, Act.put, sI, sZ, sS]
        rfl
       refine Own.pr_ 11 (some 50) q15_12 HT_ (h := ?_)
       refine Own.pr_ 12 (some 51) q15_13 HT_ (h := ?_)
       refine Own.skips_ HT_.out [13, 14, 15, 16, 17, 18, 19, 20, 21] [some 52, some 53, some 54, some 55, some 56, some 57, some 58, some 59, some 60] 2 11 _ q15_14 _ ?_ _ rfl (by kernel_rfl) (fun _ _ _ _ h => h) (by kernel_rfl) ?_ ?_
       rotate_left
       ·
        simp only [Own.putU, Act.put, sI, sZ, sS]
        rfl
       refine Own.pr_ 22 (some 61) q15_15 HT_ (h := ?_)
       refine Own.pr_ 23 (some 62) q15_16 HT_ (h := ?_)
       refine done_ (done_of HT_.out (by kernel_rfl)) ?_
       try go_wp2
       go_meet
       case rel => exact ⟨_, (true), (by first | rfl | (simp; done) | (simp [*]; done)), H', ⟨by have := HJ3.out; first | omega | exact Nat.le_refl _⟩, ⟨by (with_reducible repeat (first | apply Kd.R_alloc | apply Kd.R_drewN | apply Kd.R_drew)); exact HO394.out⟩, ⟨by (with_reducible repeat (first | refine bn ?_ _ | refine bd ?_ | refine ba ?_ _)); exact BK398.out⟩, ⟨by repeat (first | (with_reducible first | exact HB.out | apply bl | apply pN | apply b1 | refine bs ?_ GE398.out) | exact HB.out | exact HBo.out)⟩⟩
     ·
      rw [if_neg c21] at H
      have c21b0 : (t397 == 0) = false := beq_eq_false_iff_ne.mpr c21
      have c21b1 : (t397 != 0) = true := bne_iff_ne.mpr c21
      (first | rw [c21b0] | (simp only [i64_w, i32_w]; rw [c21b0]) | skip)
      have H' := Am H
      clear H
      try go_wp2
      have n0_ : Aside0 (Kd.R (Kd.int .i64) 3 ((((w18.setCell ⟨gb398, 0, none⟩ (.int .i64 t390)).setCell ⟨gb398, 1, none⟩ (.int .i64 t391)).setCell ⟨gb398, 2, none⟩ (.slice Ao20 t392.length co20)).setCell ⟨gb398, 3, none⟩ (.string t395)) w.heap.size (fun _ => True) (.slice Ao20 t392.length co20) t392) := ⟨by (with_reducible repeat (first | apply Kd.R_alloc | apply Kd.R_drewN | apply Kd.R_drew)); exact Kd.R_mono (Kd.R_far (p := ⟨gb398, 3, none⟩) (Kd.R_far (p := ⟨gb398, 2, none⟩) (Kd.R_far (p := ⟨gb398, 1, none⟩) (Kd.R_far (p := ⟨gb398, 0, none⟩) (Kd.R_types HO394.out BK398.out (by decide)) (fun _ hk => hk.2) (.int .i64 t390)) (fun _ hk => hk.2) (.int .i64 t391)) (fun _ hk => hk.2) (.slice Ao20 t392.length co20)) (fun _ hk => hk.2) (.string t395)) (fun _ hk => trivial)⟩
      have n1_ : Aside0 (((((w18.setCell ⟨gb398, 0, none⟩ (.int .i64 t390)).setCell ⟨gb398, 1, none⟩ (.int .i64 t391)).setCell ⟨gb398, 2, none⟩ (.slice Ao20 t392.length co20)).setCell ⟨gb398, 3, none⟩ (.string t395)).heap[gb398]? = some (.cells #[.int .i64 t390, .int .i64 t391, .slice Ao20 t392.length co20, .string t395] 24 (0, 0))) := ⟨by (with_reducible repeat (first | refine bn ?_ _ | refine bd ?_ | refine ba ?_ _)); refine blk_put (cs := #[.int .i64 t390, .int .i64 t391, .slice Ao20 t392.length co20, .string (⟨#[]⟩ : ByteArray)]) ?_ 3 _ rfl; (with_reducible repeat (first | refine bn ?_ _ | refine bd ?_ | refine ba ?_ _)); refine blk_put (cs := #[.int .i64 t390, .int .i64 t391, .slice none 0 0, .string (⟨#[]⟩ : ByteArray)]) ?_ 2 _ rfl; (with_reducible repeat (first | refine bn ?_ _ | refine bd ?_ | refine ba ?_ _)); refine blk_put (cs := #[.int .i64 t390, .int .i64 0, .slice none 0 0, .string (⟨#[]⟩ : ByteArray)]) ?_ 1 _ rfl; (with_reducible repeat (first | refine bn ?_ _ | refine bd ?_ | refine ba ?_ _)); refine blk_put (cs := #[.int .i64 0, .int .i64 0, .slice none 0 0, .string (⟨#[]⟩ : ByteArray)]) ?_ 0 _ rfl; (with_reducible repeat (first | refine bn ?_ _ | refine bd ?_ | refine ba ?_ _)); exact BK398.out⟩
      have n2_ : Aside0 (Below w.heap.size w ((((w18.setCell ⟨gb398, 0, none⟩ (.int .i64 t390)).setCell ⟨gb398, 1, none⟩ (.int .i64 t391)).setCell ⟨gb398, 2, none⟩ (.slice Ao20 t392.length co20)).setCell ⟨gb398, 3, none⟩ (.string t395))) := ⟨by repeat (first | (with_reducible first | exact HB.out | apply bl | apply pN | apply b1 | refine bs ?_ GE398.out) | exact HB.out | exact HBo.out)⟩
      (try clear HO394)
      (try clear BK398)
      (try clear HB)
      generalize ((((w18.setCell ⟨gb398, 0, none⟩ (.int .i64 t390)).setCell ⟨gb398, 1, none⟩ (.int .i64 t391)).setCell ⟨gb398, 2, none⟩ (.slice Ao20 t392.length co20)).setCell ⟨gb398, 3, none⟩ (.string t395)) = w39 at n0_ n1_ n2_ ⊢
      have HO394 := n0_
      have BK398 := n1_
      have HB := n2_
      clear n0_ n1_ n2_
      have n0_ := Am (Kd.R_drew HO394.out)
      have n1_ := Am (bd BK398.out)
      have n2_ := Am (b1 HB.out)
      clear HO394
      clear BK398
      clear HB
      have HO394 := n0_
      have BK398 := n1_
      have HB := n2_
      clear n0_ n1_ n2_
      refine start_ (n := 24) (S := fun w' => True) (ds := []) q15_0 (by kernel_rfl) rfl rfl trivial (fun hHeld => ?_); refine with_tabW shuttlecocklaw04_EventBack.tab4 shuttlecocklaw04_EventBack.bits4 (fun HT_ HW_ => ?_)
      generalize w39.drew = w40 at HO394 BK398 HB hHeld ⊢
      refine Own.pr_ 0 (some 39) q15_1 HT_ (h := ?_)
      refine Own.pr_ 1 (some 40) q15_2 HT_ (h := ?_)
      refine Own.pr_ 2 (some 41) q15_3 HT_ (h := ?_)
      refine Own.skips_ HT_.out [3, 4, 5, 6, 7, 8, 9, 10, 11, 12, 13, 14, 15, 16, 17, 18, 19, 20, 21, 22] [some 42, some 43, some 44, some 45, some 46, some 47, some 48, some 49, some 50, some 51, some 52, some 53, some 54, some 55, some 56, some 57, some 58, some 59, some 60, some 61] 1 21 _ q15_15 _ ?_ _ rfl (by kernel_rfl) (fun _ _ _ _ h => h) (by kernel_rfl) ?_ ?_
      rotate_left
      ·
       simp only [Own.putU, Act.put, sI, sZ, sS]
       rfl
      refine Own.pr_ 23 (some 62) q15_16 HT_ (h := ?_)
      refine done_ (done_of HT_.out (by kernel_rfl)) ?_
      try go_wp2
      go_meet
      case rel => exact ⟨_, (false), (by first | rfl | (simp; done) | (simp [*]; done)), H', ⟨by have := HJ3.out; first | omega | exact Nat.le_refl _⟩, ⟨by (with_reducible repeat (first | apply Kd.R_alloc | apply Kd.R_drewN | apply Kd.R_drew)); exact HO394.out⟩, ⟨by (with_reducible repeat (first | refine bn ?_ _ | refine bd ?_ | refine ba ?_ _)); exact BK398.out⟩, ⟨by repeat (first | (with_reducible first | exact HB.out | apply bl | apply pN | apply b1 | refine bs ?_ GE398.out) | exact HB.out | exact HBo.out)⟩⟩
    case rest =>
     clear HC16
     try clear c1
     try clear c2
     try clear p2
     try clear c3
     try clear c12
     try clear c14
     try clear c21
     try clear c21b0
     try clear c21b1
     try clear c23
     try clear c24
     try clear c24b0
     try clear c30
     try clear c30b0
     try clear c30b1
     try clear c31
     try clear c31b0
     try clear c31b1
     obtain ⟨kq, x62_15, rfl, HA, HJ15, HO_399002, BK398, HB⟩ := hcut
     cases kq with
     | zero => exact absurd HA.out (by simp [shuttlecocklaw04_EventBack.j1])
     | succ kj15 =>
      have H := HA.out
      clear HA
      simp only [shuttlecocklaw04_EventBack.j1] at H
      by_cases c41 : x62_15 = true
      ·
       subst c41
       have H1 : (none) = some r := by rw [if_pos rfl] at H; exact H
       clear H
       have H := H1
       clear H1
       exact absurd H (by simp)
      ·
       replace c41 := Bool.eq_false_iff.mpr c41
       subst c41
       have H1 : (shuttlecocklaw04_EventBack.l0 kj15 l0 a1 (⟨#[]⟩ : ByteArray) 0) = some r := by rw [if_neg (show ¬ (false = true) by decide)] at H; exact H
       clear H
       have H := H1
       clear H1
       have H' := Am H
       clear H
       go_wp2
       go_loopg [10, 11] kj15 (fun kq v10 v11 w' => ∃ (x10_3 : ByteArray) (x11_3 : Int), v10 = .string x10_3 ∧ v11 = .int .i64 x11_3 ∧ Aside0 (shuttlecocklaw04_EventBack.l0 kq l0 a1 x10_3 x11_3 = some r) ∧ Aside0 (kq ≤ kj15) ∧ Aside0 (Kd.R (Kd.int .i64) 3 w' w.heap.size (fun _ => True) (.slice Ao20 t392.length co20) t392) ∧ Aside0 (w'.heap[gb398]? = some (.cells #[.int .i64 t390, .int .i64 t391, (.slice Ao20 t392.length co20), .string t395] 24 (0, 0))) ∧ Aside0 (Below w.heap.size w w'))
       case atStart => exact ⟨((⟨#[]⟩ : ByteArray)), (0), (by first | rfl | (simp; done) | (simp [*]; done)), (by first | rfl | (simp; done) | (simp [*]; done)), H', ⟨Nat.le_refl _⟩, ⟨by (with_reducible repeat (first | apply Kd.R_alloc | apply Kd.R_drewN | apply Kd.R_drew)); exact HO_399002.out⟩, ⟨by (with_reducible repeat (first | refine bn ?_ _ | refine bd ?_ | refine ba ?_ _)); exact BK398.out⟩, ⟨by repeat (first | (with_reducible first | exact HB.out | apply bl | apply pN | apply b1 | refine bs ?_ GE398.out) | exact HB.out | exact HBo.out)⟩⟩
       case round =>
        clear H'
        try clear c1
        try clear c2
        try clear p2
        try clear c3
        try clear c4
        try clear c12
        try clear c14
        try clear c21
        try clear c21b0
        try clear c21b1
        try clear c23
        try clear c24
        try clear c24b0
        try clear c30
        try clear c30b0
        try clear c30b1
        try clear c31
        try clear c31b0
        try clear c31b1
        try clear c41
        try clear p2
        obtain ⟨x10_3, x11_3, rfl, rfl, HA, HK3, HO_399002, BK398, HB⟩ := hrel
        cases gk with
        | zero => exact absurd HA.out (by simp [shuttlecocklaw04_EventBack.l0])
        | succ k3 =>
         have H := HA.out
         clear HA
         simp only [shuttlecocklaw04_EventBack.l0] at H
         by_cases c42 : x11_3 < (l0.length : Int)
         ·
          rw [if_pos c42] at H
          have c42b0 : decide (x11_3 < (l0.length : Int)) = true := decide_eq_true c42
          clear c42
          by_cases c43 : 0 ≤ x11_3
          ·
           rw [if_pos c43] at H
           have c43b0 : decide (0 ≤ x11_3) = true := decide_eq_true c43
           clear c43
           replace H := ob H
           obtain ⟨t402, A440, H⟩ := H
           replace H : (if t402 = true then ((event_Encode.f k3 ((rd_T24 l0 x11_3).f0) ((rd_T24 l0 x11_3).f1) ((rd_T24 l0 x11_3).f2) ((rd_T24 l0 x11_3).f3)).bind fun t404 => (if x10_3.size + t404.size ≤ 9223372036854775807 then (shuttlecocklaw04_EventBack.l0 k3 l0 a1 (x10_3 ++ t404) (wrap64 (x11_3 + 1))) else (none))) else ((event_Encode.f k3 ((rd_T24 l0 x11_3).f0) ((rd_T24 l0 x11_3).f1) ((rd_T24 l0 x11_3).f2) ((rd_T24 l0 x11_3).f3)).bind fun t406 => (some (t406.toList == ([] : List UInt8))))) = some r := H
           have A44 := Am A440
           clear A440
           by_cases c45 : t402 = true
           ·
            subst c45
            have H1 : ((event_Encode.f k3 ((rd_T24 l0 x11_3).f0) ((rd_T24 l0 x11_3).f1) ((rd_T24 l0 x11_3).f2) ((rd_T24 l0 x11_3).f3)).bind fun t404 => (if x10_3.size + t404.size ≤ 9223372036854775807 then (shuttlecocklaw04_EventBack.l0 k3 l0 a1 (x10_3 ++ t404) (wrap64 (x11_3 + 1))) else (none))) = some r := by rw [if_pos rfl] at H; exact H
            clear H
            have H := H1
            clear H1
            replace H := ob H
            obtain ⟨t404, A460, H⟩ := H
            replace H : (if x10_3.size + t404.size ≤ 9223372036854775807 then (shuttlecocklaw04_EventBack.l0 k3 l0 a1 (x10_3 ++ t404) (wrap64 (x11_3 + 1))) else (none)) = some r := H
            have A46 := Am A460
            clear A460
            by_cases c47 : x10_3.size + t404.size ≤ 9223372036854775807
            ·
             rw [if_pos c47] at H
             have c47b0 := eq_true c47
             have c47b1 : decide (x10_3.size + t404.size ≤ 9223372036854775807) = true := decide_eq_true c47
             try have c47b2 : (9223372036854775807 < x10_3.size + t404.size) = False := eq_false (Nat.not_lt.2 c47)
             have H' := Am H
             clear H
             have p401 : 0 ≤ (x11_3 : Int) := of_decide_eq_true (by first | (with_reducible assumption) | assumption)
             have q401 : x11_3 < (l0.length : Int) := of_decide_eq_true (by first | (with_reducible assumption) | assumption)
             obtain ⟨ad401, A401_2, c401_2, e401, hx401_0, hx401_1, hx401_2, hx401_3, hl401_2, hi401_2⟩ := at_T24 HR0.out x11_3 p401 q401
             cases e401
             replace hx401_0 := (HB.out.cell (World.block_lt_of_cell? w _ hx401_0)).trans hx401_0
             replace hx401_1 := (HB.out.cell (World.block_lt_of_cell? w _ hx401_1)).trans hx401_1
             replace hx401_2 := (HB.out.cell (World.block_lt_of_cell? w _ hx401_2)).trans hx401_2
             replace hx401_3 := (HB.out.cell (World.block_lt_of_cell? w _ hx401_3)).trans hx401_3
             have HR401_2 := Am hi401_2
             have HC401_2 := Am hl401_2
             clear hi401_2 hl401_2
             replace p401 := eq_true p401
             replace q401 := eq_true q401
             go_wp2_with (first | ((with_reducible refine gate_callee (f := 12) rfl ?_); refine goesL_ (some 73) rfl rfl Try.func12 (by kernel_rfl) rfl #[.agg #[.int .i64 ((rd_T24 l0 x11_3).f0), .int .i64 ((rd_T24 l0 x11_3).f1), .slice A401_2 ((rd_T24 l0 x11_3).f2).length c401_2, .string ((rd_T24 l0 x11_3).f3)]] rfl (by (try simp only [List.map_toArray, List.map_cons, List.map_nil]); first | done | rfl | (simp only [List.length_drop, List.length_take]; rfl)) ?_; (with_reducible refine (event_May.calls ((rd_T24 l0 x11_3).f0) ((rd_T24 l0 x11_3).f1) _ _ ((rd_T24 l0 x11_3).f2) ((rd_T24 l0 x11_3).f3) true _ ?side1 ?side2 A44.out).mono ?_); (case side1 => repeat (first | exact (Kd.C_below HR401_2.out HB.out) | (with_reducible refine Kd.C_alloc ?_ _) | (with_reducible refine Kd.C_drewN ?_ _) | (with_reducible refine Kd.C_drew ?_))); (case side2 => exact HC401_2.out); rintro e w48 ⟨rfl, hb⟩; refine ⟨_, rfl, ?_⟩; have n0_ := Am (Kd.R_below (by (with_reducible repeat (first | apply Kd.R_alloc | apply Kd.R_drewN | apply Kd.R_drew)); exact HO_399002.out) hb); have n1_ := Am (blk_below (g := gb398) (o := .cells #[.int .i64 t390, .int .i64 t391, .slice Ao20 t392.length co20, .string t395] 24 (0, 0)) (by (with_reducible repeat (first | refine bn ?_ _ | refine bd ?_ | refine ba ?_ _)); exact BK398.out) hb); have n2_ := Am (below_step (by repeat (first | (with_reducible first | exact HB.out | apply bl | apply pN | apply b1 | refine bs ?_ GE398.out) | exact HB.out | exact HBo.out)) hb); clear HO_399002; clear BK398; clear HB; have HO_399002 := n0_; have BK398 := n1_; have HB := n2_; clear n0_ n1_ n2_; (try clear hb); (try clear hb2); (try clear hk); (try clear hi); have p403 : 0 ≤ (x11_3 : Int) := of_decide_eq_true (by first | (with_reducible assumption) | assumption); have q403 : x11_3 < (l0.length : Int) := of_decide_eq_true (by first | (with_reducible assumption) | assumption); obtain ⟨ad403, A403_2, c403_2, e403, hx403_0, hx403_1, hx403_2, hx403_3, hl403_2, hi403_2⟩ := at_T24 HR0.out x11_3 p403 q403; obtain rfl : ad401 = ad403 := (by injection e403); replace hx403_0 := (HB.out.cell (World.block_lt_of_cell? w _ hx403_0)).trans hx403_0; replace hx403_1 := (HB.out.cell (World.block_lt_of_cell? w _ hx403_1)).trans hx403_1; replace hx403_2 := (HB.out.cell (World.block_lt_of_cell? w _ hx403_2)).trans hx403_2; replace hx403_3 := (HB.out.cell (World.block_lt_of_cell? w _ hx403_3)).trans hx403_3; have HR403_2 := Am hi403_2; have HC403_2 := Am hl403_2; clear hi403_2 hl403_2; replace p403 := eq_true p403; replace q403 := eq_true q403) | ((with_reducible refine gate_callee (f := 14) rfl ?_); refine goesL_ (some 86) rfl rfl Try.func14 (by kernel_rfl) rfl #[.agg #[.int .i64 ((rd_T24 l0 x11_3).f0), .int .i64 ((rd_T24 l0 x11_3).f1), .slice A403_2 ((rd_T24 l0 x11_3).f2).length c403_2, .string ((rd_T24 l0 x11_3).f3)]] rfl (by (try simp only [List.map_toArray, List.map_cons, List.map_nil]); first | done | rfl | (simp only [List.length_drop, List.length_take]; rfl)) ?_; (with_reducible refine (event_Encode.calls k3 ((rd_T24 l0 x11_3).f0) ((rd_T24 l0 x11_3).f1) _ _ ((rd_T24 l0 x11_3).f2) ((rd_T24 l0 x11_3).f3) t404 _ ?side1 ?side2 A46.out).mono ?_); (case side1 => repeat (first | exact (Kd.C_below HR403_2.out HB.out) | (with_reducible refine Kd.C_alloc ?_ _) | (with_reducible refine Kd.C_drewN ?_ _) | (with_reducible refine Kd.C_drew ?_))); (case side2 => exact HC403_2.out); rintro e w49 ⟨rfl, hb⟩; refine ⟨_, rfl, ?_⟩; have n0_ := Am (Kd.R_below (by (with_reducible repeat (first | apply Kd.R_alloc | apply Kd.R_drewN | apply Kd.R_drew)); exact HO_399002.out) hb); have n1_ := Am (blk_below (g := gb398) (o := .cells #[.int .i64 t390, .int .i64 t391, .slice Ao20 t392.length co20, .string t395] 24 (0, 0)) (by (with_reducible repeat (first | refine bn ?_ _ | refine bd ?_ | refine ba ?_ _)); exact BK398.out) hb); have n2_ := Am (below_step (by repeat (first | (with_reducible first | exact HB.out | apply bl | apply pN | apply b1 | refine bs ?_ GE398.out) | exact HB.out | exact HBo.out)) hb); clear HO_399002; clear BK398; clear HB; have HO_399002 := n0_; have BK398 := n1_; have HB := n2_; clear n0_ n1_ n2_; (try clear hb); (try clear hb2); (try clear hk); (try clear hi)))
             go_roundg k3
             case measure => have := HJ3.out; have := HJ15.out; have := HK3.out; omega
             case rel => exact ⟨(x10_3 ++ t404), (wrap64 (x11_3 + 1)), (by first | rfl | (simp; done) | (simp [*]; done)), (by first | rfl | (simp; done) | (simp [*]; done)), H', ⟨by have := HJ3.out; have := HJ15.out; have := HK3.out; omega⟩, ⟨by (with_reducible repeat (first | apply Kd.R_alloc | apply Kd.R_drewN | apply Kd.R_drew)); exact HO_399002.out⟩, ⟨by (with_reducible repeat (first | refine bn ?_ _ | refine bd ?_ | refine ba ?_ _)); exact BK398.out⟩, ⟨by repeat (first | (with_reducible first | exact HB.out | apply bl | apply pN | apply b1 | refine bs ?_ GE398.out) | exact HB.out | exact HBo.out)⟩⟩
            ·
             rw [if_neg c47] at H
             exact absurd H (by simp)
           ·
            replace c45 := Bool.eq_false_iff.mpr c45
            subst c45
            have H1 : ((event_Encode.f k3 ((rd_T24 l0 x11_3).f0) ((rd_T24 l0 x11_3).f1) ((rd_T24 l0 x11_3).f2) ((rd_T24 l0 x11_3).f3)).bind fun t406 => (some (t406.toList == ([] : List UInt8)))) = some r := by rw [if_neg (show ¬ (false = true) by decide)] at H; exact H
            clear H
            have H := H1
            clear H1
            replace H := ob H
            obtain ⟨t406, A500, H⟩ := H
            replace H : (some (t406.toList == ([] : List UInt8))) = some r := H
            have A50 := Am A500
            clear A500
            obtain rfl := Option.some.inj H
            have p401 : 0 ≤ (x11_3 : Int) := of_decide_eq_true (by first | (with_reducible assumption) | assumption)
            have q401 : x11_3 < (l0.length : Int) := of_decide_eq_true (by first | (with_reducible assumption) | assumption)
            obtain ⟨ad401, A401_2, c401_2, e401, hx401_0, hx401_1, hx401_2, hx401_3, hl401_2, hi401_2⟩ := at_T24 HR0.out x11_3 p401 q401
            cases e401
            replace hx401_0 := (HB.out.cell (World.block_lt_of_cell? w _ hx401_0)).trans hx401_0
            replace hx401_1 := (HB.out.cell (World.block_lt_of_cell? w _ hx401_1)).trans hx401_1
            replace hx401_2 := (HB.out.cell (World.block_lt_of_cell? w _ hx401_2)).trans hx401_2
            replace hx401_3 := (HB.out.cell (World.block_lt_of_cell? w _ hx401_3)).trans hx401_3
            have HR401_2 := Am hi401_2
            have HC401_2 := Am hl401_2
            clear hi401_2 hl401_2
            replace p401 := eq_true p401
            replace q401 := eq_true q401
            go_wp2_with (first | ((with_reducible refine gate_callee (f := 12) rfl ?_); refine goesL_ (some 73) rfl rfl Try.func12 (by kernel_rfl) rfl #[.agg #[.int .i64 ((rd_T24 l0 x11_3).f0), .int .i64 ((rd_T24 l0 x11_3).f1), .slice A401_2 ((rd_T24 l0 x11_3).f2).length c401_2, .string ((rd_T24 l0 x11_3).f3)]] rfl (by (try simp only [List.map_toArray, List.map_cons, List.map_nil]); first | done | rfl | (simp only [List.length_drop, List.length_take]; rfl)) ?_; (with_reducible refine (event_May.calls ((rd_T24 l0 x11_3).f0) ((rd_T24 l0 x11_3).f1) _ _ ((rd_T24 l0 x11_3).f2) ((rd_T24 l0 x11_3).f3) false _ ?side1 ?side2 A44.out).mono ?_); (case side1 => repeat (first | exact (Kd.C_below HR401_2.out HB.out) | (with_reducible refine Kd.C_alloc ?_ _) | (with_reducible refine Kd.C_drewN ?_ _) | (with_reducible refine Kd.C_drew ?_))); (case side2 => exact HC401_2.out); rintro e w51 ⟨rfl, hb⟩; refine ⟨_, rfl, ?_⟩; have n0_ := Am (Kd.R_below (by (with_reducible repeat (first | apply Kd.R_alloc | apply Kd.R_drewN | apply Kd.R_drew)); exact HO_399002.out) hb); have n1_ := Am (blk_below (g := gb398) (o := .cells #[.int .i64 t390, .int .i64 t391, .slice Ao20 t392.length co20, .string t395] 24 (0, 0)) (by (with_reducible repeat (first | refine bn ?_ _ | refine bd ?_ | refine ba ?_ _)); exact BK398.out) hb); have n2_ := Am (below_step (by repeat (first | (with_reducible first | exact HB.out | apply bl | apply pN | apply b1 | refine bs ?_ GE398.out) | exact HB.out | exact HBo.out)) hb); clear HO_399002; clear BK398; clear HB; have HO_399002 := n0_; have BK398 := n1_; have HB := n2_; clear n0_ n1_ n2_; (try clear hb); (try clear hb2); (try clear hk); (try clear hi); have p405 : 0 ≤ (x11_3 : Int) := of_decide_eq_true (by first | (with_reducible assumption) | assumption); have q405 : x11_3 < (l0.length : Int) := of_decide_eq_true (by first | (with_reducible assumption) | assumption); obtain ⟨ad405, A405_2, c405_2, e405, hx405_0, hx405_1, hx405_2, hx405_3, hl405_2, hi405_2⟩ := at_T24 HR0.out x11_3 p405 q405; obtain rfl : ad401 = ad405 := (by injection e405); replace hx405_0 := (HB.out.cell (World.block_lt_of_cell? w _ hx405_0)).trans hx405_0; replace hx405_1 := (HB.out.cell (World.block_lt_of_cell? w _ hx405_1)).trans hx405_1; replace hx405_2 := (HB.out.cell (World.block_lt_of_cell? w _ hx405_2)).trans hx405_2; replace hx405_3 := (HB.out.cell (World.block_lt_of_cell? w _ hx405_3)).trans hx405_3; have HR405_2 := Am hi405_2; have HC405_2 := Am hl405_2; clear hi405_2 hl405_2; replace p405 := eq_true p405; replace q405 := eq_true q405) | ((with_reducible refine gate_callee (f := 14) rfl ?_); refine goesL_ (some 79) rfl rfl Try.func14 (by kernel_rfl) rfl #[.agg #[.int .i64 ((rd_T24 l0 x11_3).f0), .int .i64 ((rd_T24 l0 x11_3).f1), .slice A405_2 ((rd_T24 l0 x11_3).f2).length c405_2, .string ((rd_T24 l0 x11_3).f3)]] rfl (by (try simp only [List.map_toArray, List.map_cons, List.map_nil]); first | done | rfl | (simp only [List.length_drop, List.length_take]; rfl)) ?_; (with_reducible refine (event_Encode.calls k3 ((rd_T24 l0 x11_3).f0) ((rd_T24 l0 x11_3).f1) _ _ ((rd_T24 l0 x11_3).f2) ((rd_T24 l0 x11_3).f3) t406 _ ?side1 ?side2 A50.out).mono ?_); (case side1 => repeat (first | exact (Kd.C_below HR405_2.out HB.out) | (with_reducible refine Kd.C_alloc ?_ _) | (with_reducible refine Kd.C_drewN ?_ _) | (with_reducible refine Kd.C_drew ?_))); (case side2 => exact HC405_2.out); rintro e w52 ⟨rfl, hb⟩; refine ⟨_, rfl, ?_⟩; have n0_ := Am (Kd.R_below (by (with_reducible repeat (first | apply Kd.R_alloc | apply Kd.R_drewN | apply Kd.R_drew)); exact HO_399002.out) hb); have n1_ := Am (blk_below (g := gb398) (o := .cells #[.int .i64 t390, .int .i64 t391, .slice Ao20 t392.length co20, .string t395] 24 (0, 0)) (by (with_reducible repeat (first | refine bn ?_ _ | refine bd ?_ | refine ba ?_ _)); exact BK398.out) hb); have n2_ := Am (below_step (by repeat (first | (with_reducible first | exact HB.out | apply bl | apply pN | apply b1 | refine bs ?_ GE398.out) | exact HB.out | exact HBo.out)) hb); clear HO_399002; clear BK398; clear HB; have HO_399002 := n0_; have BK398 := n1_; have HB := n2_; clear n0_ n1_ n2_; (try clear hb); (try clear hb2); (try clear hk); (try clear hi)))
            go_ret
            exact ⟨by first | rfl | (simp [errW_none, errW_some] <;> rfl) | (simp [*, errW_none, errW_some] <;> rfl) | (simp [Aid.ne_nil, Aid.eq_nil, errW_none, errW_some]; done), by repeat (first | (with_reducible first | exact HB.out | apply bl | apply pN | apply b1 | refine bs ?_ GE398.out) | exact HB.out | exact HBo.out)⟩
          ·
           rw [if_neg c43] at H
           exact absurd H (by simp)
         ·
          rw [if_neg c42] at H
          have c42b0 : decide (x11_3 < (l0.length : Int)) = false := decide_eq_false c42
          clear c42
          have H' := Am H
          clear H
          go_wp2
          go_loopg [12, 13] k3 (fun kq v12 v13 w' => ∃ (x12_4 : Int) (x13_4 : Int), v12 = .int .i64 x12_4 ∧ v13 = .int .i64 x13_4 ∧ Aside0 (shuttlecocklaw04_EventBack.l1 kq l0 a1 x10_3 x12_4 x13_4 = some r) ∧ Aside0 (kq ≤ k3) ∧ Aside0 (Kd.R (Kd.int .i64) 3 w' w.heap.size (fun _ => True) (.slice Ao20 t392.length co20) t392) ∧ Aside0 (w'.heap[gb398]? = some (.cells #[.int .i64 t390, .int .i64 t391, (.slice Ao20 t392.length co20), .string t395] 24 (0, 0))) ∧ Aside0 (Below w.heap.size w w'))
          case atStart => exact ⟨(0), (0), (by first | rfl | (simp; done) | (simp [*]; done)), (by first | rfl | (simp; done) | (simp [*]; done)), H', ⟨Nat.le_refl _⟩, ⟨by (with_reducible repeat (first | apply Kd.R_alloc | apply Kd.R_drewN | apply Kd.R_drew)); exact HO_399002.out⟩, ⟨by (with_reducible repeat (first | refine bn ?_ _ | refine bd ?_ | refine ba ?_ _)); exact BK398.out⟩, ⟨by repeat (first | (with_reducible first | exact HB.out | apply bl | apply pN | apply b1 | refine bs ?_ GE398.out) | exact HB.out | exact HBo.out)⟩⟩
          case round =>
           clear H'
           try clear c1
           try clear c2
           try clear p2
           try clear c3
           try clear c4
           try clear p4
           try clear q4
           try clear hx4
           try clear p6
           try clear c12
           try clear c14
           try clear c21
           try clear c21b0
           try clear c21b1
           try clear c23
           try clear c24
           try clear c24b0
           try clear c30
           try clear c30b0
           try clear c30b1
           try clear c31
           try clear c31b0
           try clear c31b1
           try clear c40
           try clear p40
           try clear q40
           try clear hx40
           try clear c41
           try clear c42
           try clear c42b0
           try clear c43
           try clear c43b0
           try clear c45
           try clear c47
           try clear c47b0
           try clear c47b1
           try clear c47b2
           try clear hx401_0
           try clear hx401_1
           try clear hx401_2
           try clear hx401_3
           try clear hx403_0
           try clear hx403_1
           try clear hx403_2
           try clear hx403_3
           try clear hx405_0
           try clear hx405_1
           try clear hx405_2
           try clear hx405_3
           try clear p2
           try clear p401
           try clear p403
           try clear p405
           try clear q401
           try clear q403
           try clear q405
           obtain ⟨x12_4, x13_4, rfl, rfl, HA, HK4, HO_399002, BK398, HB⟩ := hrel
           cases gk with
           | zero => exact absurd HA.out (by simp [shuttlecocklaw04_EventBack.l1])
           | succ k4 =>
            have H := HA.out
            clear HA
            simp only [shuttlecocklaw04_EventBack.l1] at H
            by_cases c53 : x13_4 < (l0.length : Int)
            ·
             rw [if_pos c53] at H
             have c53b0 : decide (x13_4 < (l0.length : Int)) = true := decide_eq_true c53
             clear c53
             replace H := ob H
             obtain ⟨⟨t407, t408, t409, t412, t413, t414⟩, A540, H⟩ := H
             replace H : (if t414 = 0 then (if 0 ≤ x13_4 then ((shuttlecockref04_Same.f k4 t407 t408 t409 t412 ((rd_T24 l0 x13_4).f0) ((rd_T24 l0 x13_4).f1) ((rd_T24 l0 x13_4).f2) ((rd_T24 l0 x13_4).f3)).bind fun t417 => (shuttlecocklaw04_EventBack.j4 k4 l0 a1 x10_3 x12_4 x13_4 t413 (!t417))) else (none)) else (shuttlecocklaw04_EventBack.j4 k4 l0 a1 x10_3 x12_4 x13_4 t413 true)) = some r := H
             have A54 := Am A540
             clear A540
             have HC55 := Am H
             clear H
             go_upto_region 18 with (first | ((with_reducible refine gate_callee (f := 10) rfl ?_); refine goesL_ (some 97) rfl rfl Try.func10 (by kernel_rfl) rfl #[.string x10_3, .int .i64 x12_4] rfl (by (try simp only [List.map_toArray, List.map_cons, List.map_nil]); first | done | rfl | (simp only [List.length_drop, List.length_take]; rfl)) ?_; (with_reducible refine (event_Decode.calls k4 x10_3 x12_4 t407 t408 t409 t412 t413 t414 _ A54.out).mono ?_); rintro e w56 ⟨v410, rfl, ho0, hb⟩; refine ⟨_, rfl, ?_⟩; have n0_ := Am (Kd.R_elder' (by (with_reducible repeat (first | apply Kd.R_alloc | apply Kd.R_drewN | apply Kd.R_drew)); exact HO_399002.out) (Kd.R_base ho0) hb); have n1_ := Am (Kd.R_lower (Kd.R_new' ho0 (Kd.R_lt (by (with_reducible repeat (first | apply Kd.R_alloc | apply Kd.R_drewN | apply Kd.R_drew)); exact HO_399002.out))) (below_size (by repeat (first | (with_reducible first | exact HB.out | apply bl | apply pN | apply b1 | refine bs ?_ GE398.out) | exact HB.out | exact HBo.out)))); have n2_ := Am (blk_below (g := gb398) (o := .cells #[.int .i64 t390, .int .i64 t391, .slice Ao20 t392.length co20, .string t395] 24 (0, 0)) (by (with_reducible repeat (first | refine bn ?_ _ | refine bd ?_ | refine ba ?_ _)); exact BK398.out) hb); have n3_ := Am (below_step (by repeat (first | (with_reducible first | exact HB.out | apply bl | apply pN | apply b1 | refine bs ?_ GE398.out) | exact HB.out | exact HBo.out)) hb); clear HO_399002; clear BK398; clear HB; have HO_399002 := n0_; have HO411 := n1_; have BK398 := n2_; have HB := n3_; clear n0_ n1_ n2_ n3_; (try clear hb); (try clear hb2); (try clear hk); (try clear hi); (try clear ho0)) | ((with_reducible refine gate_dst (N := 14) rfl ?_); (try (refine gate_guard (by rfl) ?_; dsimp only)); refine box_event ?hg (N := 14) ?hd (cs := #[.int .i64 0, .int .i64 0, .slice none 0 0, .string (⟨#[]⟩ : ByteArray)]) (t := 24) ?hr ?_; (case hd => rfl); (case hg => rfl); (case hr => first | (go_simp; done) | (go_simp; rfl)); intro gb415 hg w57 hbox hb; have n0_ := Am (Kd.R_below (by (with_reducible repeat (first | apply Kd.R_alloc | apply Kd.R_drewN | apply Kd.R_drew)); exact HO_399002.out) hb); have n1_ := Am (Kd.R_below (by (with_reducible repeat (first | apply Kd.R_alloc | apply Kd.R_drewN | apply Kd.R_drew)); exact HO411.out) hb); have n2_ := Am (blk_below (g := gb398) (o := .cells #[.int .i64 t390, .int .i64 t391, .slice Ao20 t392.length co20, .string t395] 24 (0, 0)) (by (with_reducible repeat (first | refine bn ?_ _ | refine bd ?_ | refine ba ?_ _)); exact BK398.out) hb); have n3_ := Am (below_step (by repeat (first | (with_reducible first | exact HB.out | apply bl | apply pN | apply b1 | refine bs ?_ GE398.out) | exact HB.out | exact HBo.out)) hb); have n4_ := Am (hbox); have n5_ := Am ((by rw [hg]; exact (below_size (by repeat (first | (with_reducible first | exact HB.out | apply bl | apply pN | apply b1 | refine bs ?_ GE398.out) | exact HB.out | exact HBo.out))) : w.heap.size ≤ gb415)); have n6_ := Am ((by rw [hg]; exact (below_size (by repeat (first | (with_reducible first | exact HB.out | apply bl | apply pN | apply b1 | refine bs ?_ GE398.out) | exact HB.out | exact HBo.out))) : w.heap.size ≤ gb415)); have n7_ := Am ((by rw [hg]; exact Nat.ne_of_lt (blk_lt (g := gb398) (o := .cells #[.int .i64 t390, .int .i64 t391, .slice Ao20 t392.length co20, .string t395] 24 (0, 0)) (by (with_reducible repeat (first | refine bn ?_ _ | refine bd ?_ | refine ba ?_ _)); exact BK398.out)) : gb398 ≠ gb415)); have n8_ := Am ((by rw [hg]; exact Nat.ne_of_gt (blk_lt (g := gb398) (o := .cells #[.int .i64 t390, .int .i64 t391, .slice Ao20 t392.length co20, .string t395] 24 (0, 0)) (by (with_reducible repeat (first | refine bn ?_ _ | refine bd ?_ | refine ba ?_ _)); exact BK398.out)) : gb415 ≠ gb398)); clear HO_399002; clear HO411; clear BK398; clear HB; have HO_399002 := n0_; have HO411 := n1_; have BK398 := n2_; have HB := n3_; have BK415 := n4_; have GW415 := n5_; have GE415 := n6_; have NB398_415 := n7_; have NB415_398 := n8_; clear n0_ n1_ n2_ n3_ n4_ n5_ n6_ n7_ n8_; clear hb hbox hg; have hnb58 := NB415_398.out; have hnc58 := NB398_415.out; have hcz59_0 : w57.cell? ⟨gb415, 0, none⟩ = some (.int .i64 0) := (bc BK415.out 0).trans rfl; have hcz59_1 : w57.cell? ⟨gb415, 1, none⟩ = some (.int .i64 0) := (bc BK415.out 1).trans rfl; have hcz59_2 : w57.cell? ⟨gb415, 2, none⟩ = some (.slice none 0 0) := (bc BK415.out 2).trans rfl; have hcz59_3 : w57.cell? ⟨gb415, 3, none⟩ = some (.string (⟨#[]⟩ : ByteArray)) := (bc BK415.out 3).trans rfl; have hfz59_0 := bf BK415.out 0; have hfz59_1 := bf BK415.out 1; have hfz59_2 := bf BK415.out 2; have hfz59_3 := bf BK415.out 3; obtain ⟨Ao60, co60, eo60⟩ := Kd.R_slice HO411.out; subst eo60))
             (try simp only [Act.put, sI, sZ, sS])
             go_cut [111] (fun v111 wc => ∃ (kq : Nat) (x111_54 : Bool), v111 = .bool x111_54 ∧ Aside0 (shuttlecocklaw04_EventBack.j4 kq l0 a1 x10_3 x12_4 x13_4 t413 x111_54 = some r) ∧ Aside0 (kq ≤ k4) ∧ Aside0 (Kd.R (Kd.int .i64) 3 wc w.heap.size (fun k_ => some k_ ≠ ((.slice Ao60 t409.length co60) : Value).ownBlock) (.slice Ao20 t392.length co20) t392) ∧ Aside0 (Kd.R (Kd.int .i64) 3 wc w.heap.size (fun k_ => some k_ ≠ ((.slice Ao20 t392.length co20) : Value).ownBlock) (.slice Ao60 t409.length co60) t409) ∧ Aside0 (wc.heap[gb398]? = some (.cells #[.int .i64 t390, .int .i64 t391, (.slice Ao20 t392.length co20), .string t395] 24 (0, 0))) ∧ Aside0 (wc.heap[gb415]? = some (.cells #[.int .i64 t407, .int .i64 t408, (.slice Ao60 t409.length co60), .string t412] 24 (0, 0))) ∧ Aside0 (Below w.heap.size w wc))
             case first =>
              have H := HC55.out
              clear HC55
              by_cases c61 : t414 = 0
              ·
               rw [if_pos c61] at H
               have c61b0 : (t414 == 0) = true := beq_iff_eq.mpr c61
               have c61b1 : (t414 != 0) = false := bne_eq_false_iff_eq.mpr c61
               clear c61
               (first | rw [c61b0] | (simp only [i64_w, i32_w]; rw [c61b0]) | skip)
               by_cases c62 : 0 ≤ x13_4
               ·
                rw [if_pos c62] at H
                have c62b0 : decide (0 ≤ x13_4) = true := decide_eq_true c62
                clear c62
                replace H := ob H
                obtain ⟨t417, A630, H⟩ := H
                replace H : (shuttlecocklaw04_EventBack.j4 k4 l0 a1 x10_3 x12_4 x13_4 t413 (!t417)) = some r := H
                have A63 := Am A630
                clear A630
                have H' := Am H
                clear H
                try go_wp2
                have n0_ : Aside0 (Kd.R (Kd.int .i64) 3 ((((w57.setCell ⟨gb415, 0, none⟩ (.int .i64 t407)).setCell ⟨gb415, 1, none⟩ (.int .i64 t408)).setCell ⟨gb415, 2, none⟩ (.slice Ao60 t409.length co60)).setCell ⟨gb415, 3, none⟩ (.string t412)) w.heap.size (fun k_ => some k_ ≠ (.slice Ao60 t409.length co60 : Value).ownBlock) (.slice Ao20 t392.length co20) t392) := ⟨by (with_reducible repeat (first | apply Kd.R_alloc | apply Kd.R_drewN | apply Kd.R_drew)); exact Kd.R_mono (Kd.R_far (p := ⟨gb415, 3, none⟩) (Kd.R_far (p := ⟨gb415, 2, none⟩) (Kd.R_far (p := ⟨gb415, 1, none⟩) (Kd.R_far (p := ⟨gb415, 0, none⟩) (Kd.R_types HO_399002.out BK415.out (by decide)) (fun _ hk => hk.2) (.int .i64 t407)) (fun _ hk => hk.2) (.int .i64 t408)) (fun _ hk => hk.2) (.slice Ao60 t409.length co60)) (fun _ hk => hk.2) (.string t412)) (fun _ hk => hk.1.2)⟩
                have n1_ : Aside0 (Kd.R (Kd.int .i64) 3 ((((w57.setCell ⟨gb415, 0, none⟩ (.int .i64 t407)).setCell ⟨gb415, 1, none⟩ (.int .i64 t408)).setCell ⟨gb415, 2, none⟩ (.slice Ao60 t409.length co60)).setCell ⟨gb415, 3, none⟩ (.string t412)) w.heap.size (fun k_ => some k_ ≠ (.slice Ao20 t392.length co20 : Value).ownBlock) (.slice Ao60 t409.length co60) t409) := ⟨by (with_reducible repeat (first | apply Kd.R_alloc | apply Kd.R_drewN | apply Kd.R_drew)); exact Kd.R_mono (Kd.R_far (p := ⟨gb415, 3, none⟩) (Kd.R_far (p := ⟨gb415, 2, none⟩) (Kd.R_far (p := ⟨gb415, 1, none⟩) (Kd.R_far (p := ⟨gb415, 0, none⟩) (Kd.R_types HO411.out BK415.out (by decide)) (fun _ hk => hk.2) (.int .i64 t407)) (fun _ hk => hk.2) (.int .i64 t408)) (fun _ hk => hk.2) (.slice Ao60 t409.length co60)) (fun _ hk => hk.2) (.string t412)) (fun _ hk => hk.1.2)⟩
                have n2_ : Aside0 (((((w57.setCell ⟨gb415, 0, none⟩ (.int .i64 t407)).setCell ⟨gb415, 1, none⟩ (.int .i64 t408)).setCell ⟨gb415, 2, none⟩ (.slice Ao60 t409.length co60)).setCell ⟨gb415, 3, none⟩ (.string t412)).heap[gb398]? = some (.cells #[.int .i64 t390, .int .i64 t391, .slice Ao20 t392.length co20, .string t395] 24 (0, 0))) := ⟨by (with_reducible repeat (first | refine bn ?_ _ | refine bd ?_ | refine ba ?_ _)); refine blk_far ?_ NB398_415.out _; (with_reducible repeat (first | refine bn ?_ _ | refine bd ?_ | refine ba ?_ _)); refine blk_far ?_ NB398_415.out _; (with_reducible repeat (first | refine bn ?_ _ | refine bd ?_ | refine ba ?_ _)); refine blk_far ?_ NB398_415.out _; (with_reducible repeat (first | refine bn ?_ _ | refine bd ?_ | refine ba ?_ _)); refine blk_far ?_ NB398_415.out _; (with_reducible repeat (first | refine bn ?_ _ | refine bd ?_ | refine ba ?_ _)); exact BK398.out⟩
                have n3_ : Aside0 (((((w57.setCell ⟨gb415, 0, none⟩ (.int .i64 t407)).setCell ⟨gb415, 1, none⟩ (.int .i64 t408)).setCell ⟨gb415, 2, none⟩ (.slice Ao60 t409.length co60)).setCell ⟨gb415, 3, none⟩ (.string t412)).heap[gb415]? = some (.cells #[.int .i64 t407, .int .i64 t408, .slice Ao60 t409.length co60, .string t412] 24 (0, 0))) := ⟨by (with_reducible repeat (first | refine bn ?_ _ | refine bd ?_ | refine ba ?_ _)); refine blk_put (cs := #[.int .i64 t407, .int .i64 t408, .slice Ao60 t409.length co60, .string (⟨#[]⟩ : ByteArray)]) ?_ 3 _ rfl; (with_reducible repeat (first | refine bn ?_ _ | refine bd ?_ | refine ba ?_ _)); refine blk_put (cs := #[.int .i64 t407, .int .i64 t408, .slice none 0 0, .string (⟨#[]⟩ : ByteArray)]) ?_ 2 _ rfl; (with_reducible repeat (first | refine bn ?_ _ | refine bd ?_ | refine ba ?_ _)); refine blk_put (cs := #[.int .i64 t407, .int .i64 0, .slice none 0 0, .string (⟨#[]⟩ : ByteArray)]) ?_ 1 _ rfl; (with_reducible repeat (first | refine bn ?_ _ | refine bd ?_ | refine ba ?_ _)); refine blk_put (cs := #[.int .i64 0, .int .i64 0, .slice none 0 0, .string (⟨#[]⟩ : ByteArray)]) ?_ 0 _ rfl; (with_reducible repeat (first | refine bn ?_ _ | refine bd ?_ | refine ba ?_ _)); exact BK415.out⟩
                have n4_ : Aside0 (Below w.heap.size w ((((w57.setCell ⟨gb415, 0, none⟩ (.int .i64 t407)).setCell ⟨gb415, 1, none⟩ (.int .i64 t408)).setCell ⟨gb415, 2, none⟩ (.slice Ao60 t409.length co60)).setCell ⟨gb415, 3, none⟩ (.string t412))) := ⟨by repeat (first | (with_reducible first | exact HB.out | apply bl | apply pN | apply b1 | refine bs ?_ GE398.out | refine bs ?_ GE415.out) | exact HB.out | exact HBo.out)⟩
                (try clear HO_399002)
                (try clear HO411)
                (try clear BK398)
                (try clear BK415)
                (try clear HB)
                generalize ((((w57.setCell ⟨gb415, 0, none⟩ (.int .i64 t407)).setCell ⟨gb415, 1, none⟩ (.int .i64 t408)).setCell ⟨gb415, 2, none⟩ (.slice Ao60 t409.length co60)).setCell ⟨gb415, 3, none⟩ (.string t412)) = w64 at n0_ n1_ n2_ n3_ n4_ ⊢
                have HO_399002 := n0_
                have HO411 := n1_
                have BK398 := n2_
                have BK415 := n3_
                have HB := n4_
                clear n0_ n1_ n2_ n3_ n4_
                have n0_ := Am (Kd.R_drew HO_399002.out)
                have n1_ := Am (Kd.R_drew HO411.out)
                have n2_ := Am (bd BK398.out)
                have n3_ := Am (bd BK415.out)
                have n4_ := Am (b1 HB.out)
                clear HO_399002
                clear HO411
                clear BK398
                clear BK415
                clear HB
                have HO_399002 := n0_
                have HO411 := n1_
                have BK398 := n2_
                have BK415 := n3_
                have HB := n4_
                clear n0_ n1_ n2_ n3_ n4_
                have p416 : 0 ≤ (x13_4 : Int) := of_decide_eq_true (by first | (with_reducible assumption) | assumption)
                have q416 : x13_4 < (l0.length : Int) := of_decide_eq_true (by first | (with_reducible assumption) | assumption)
                obtain ⟨ad416, A416_2, c416_2, e416, hx416_0, hx416_1, hx416_2, hx416_3, hl416_2, hi416_2⟩ := at_T24 HR0.out x13_4 p416 q416
                have hw416_3 := hx416_3
                have hw416_2 := hx416_2
                have hw416_1 := hx416_1
                have hw416_0 := hx416_0
                cases e416
                replace hx416_0 := (HB.out.cell (World.block_lt_of_cell? w _ hx416_0)).trans hx416_0
                replace hx416_1 := (HB.out.cell (World.block_lt_of_cell? w _ hx416_1)).trans hx416_1
                replace hx416_2 := (HB.out.cell (World.block_lt_of_cell? w _ hx416_2)).trans hx416_2
                replace hx416_3 := (HB.out.cell (World.block_lt_of_cell? w _ hx416_3)).trans hx416_3
                have HR416_2 := Am hi416_2
                have HC416_2 := Am hl416_2
                clear hi416_2 hl416_2
                replace p416 := eq_true p416
                replace q416 := eq_true q416
                refine start_ (n := 11) (S := fun w' => w'.cell? ⟨gb415, 0, none⟩ = some (.int .i64 t407) ∧ w'.cell? ⟨gb415, 1, none⟩ = some (.int .i64 t408) ∧ w'.cell? ⟨gb415, 2, none⟩ = some (.slice Ao60 t409.length co60) ∧ w'.cell? ⟨gb415, 3, none⟩ = some (.string t412) ∧ w'.cell? (ad416.add ((x13_4).toNat * 4)) = some (.int .i64 ((rd_T24 l0 x13_4).f0)) ∧ w'.cell? ⟨(ad416.add ((x13_4).toNat * 4)).block, (ad416.add ((x13_4).toNat * 4)).off + 1, none⟩ = some (.int .i64 ((rd_T24 l0 x13_4).f1)) ∧ w'.cell? ⟨(ad416.add ((x13_4).toNat * 4)).block, (ad416.add ((x13_4).toNat * 4)).off + 2, none⟩ = some (.slice A416_2 ((rd_T24 l0 x13_4).f2).length c416_2) ∧ w'.cell? ⟨(ad416.add ((x13_4).toNat * 4)).block, (ad416.add ((x13_4).toNat * 4)).off + 3, none⟩ = some (.string ((rd_T24 l0 x13_4).f3))) (ds := []) q15_25 (by kernel_rfl) rfl rfl ⟨(bc BK415.out 0).trans rfl, (bc BK415.out 1).trans rfl, (bc BK415.out 2).trans rfl, (bc BK415.out 3).trans rfl, ((HB.out.cell (World.block_lt_of_cell? w _ hw416_0)).trans hw416_0), ((HB.out.cell (World.block_lt_of_cell? w _ hw416_1)).trans hw416_1), ((HB.out.cell (World.block_lt_of_cell? w _ hw416_2)).trans hw416_2), ((HB.out.cell (World.block_lt_of_cell? w _ hw416_3)).trans hw416_3)⟩ (fun hHeld => ?_); refine with_tabW shuttlecocklaw04_EventBack.tab18 shuttlecocklaw04_EventBack.bits18 (fun HT_ HW_ => ?_)
                generalize w64.drew = w65 at HO_399002 HO411 BK398 BK415 HB HR416_2 hx416_0 hx416_1 hx416_2 hx416_3 hHeld ⊢
                refine Own.pr_ 0 (some 101) q15_26 HT_ (h := ?_)
                refine Own.pr_ 1 (some 102) q15_27 HT_ (h := ?_)
                refine Own.pr_ 2 (some 103) q15_28 HT_ (h := ?_)
                refine Own.pr_ 4 (some 105) q15_29 HT_ (h := ?_)
                refine Own.pr_ 5 (some 106) q15_30 HT_ (h := ?_)
                refine Own.pr_ 6 (some 107) q15_31 HT_ (h := ?_)
                refine Own.tk_ 3 (some 104) q15_32 HT_ HW_ hHeld (hy := by rintro w' ⟨s0, s1, s2, s3, s4, s5, s6, s7⟩; go_simp; with_reducible rfl) (h := ?_)
                refine Own.tk_ 7 (some 108) q15_33 HT_ HW_ hHeld (hy := by rintro w' ⟨s0, s1, s2, s3, s4, s5, s6, s7⟩; go_simp; with_reducible rfl) (h := ?_)
                refine one_ (i := 8) (N := some 109) q15_34 rfl rfl (one_of HT_.out (by kernel_rfl)) (by decide) (fun K hK => ?_)
                refine goes_ Try.func16 (by kernel_rfl) rfl #[.agg #[.int .i64 t407, .int .i64 t408, .slice Ao60 t409.length co60, .string t412], .agg #[.int .i64 ((rd_T24 l0 x13_4).f0), .int .i64 ((rd_T24 l0 x13_4).f1), .slice A416_2 ((rd_T24 l0 x13_4).f2).length c416_2, .string ((rd_T24 l0 x13_4).f3)]] (by rfl) rfl rfl (by (try simp only [List.map_toArray, List.map_cons, List.map_nil]); first | done | rfl | (simp only [List.length_drop, List.length_take]; rfl)) ?_
                with_reducible refine (shuttlecockref04_Same.calls k4 t407 t408 _ _ t409 t412 ((rd_T24 l0 x13_4).f0) ((rd_T24 l0 x13_4).f1) _ _ ((rd_T24 l0 x13_4).f2) ((rd_T24 l0 x13_4).f3) t417 _ ?side1 ?side2 ?side3 ?side4 A63.out).mono ?_
                (case side1 => repeat (first | exact (Kd.R_reads' HO411.out).2.2 | (with_reducible refine Kd.C_alloc ?_ _) | (with_reducible refine Kd.C_drewN ?_ _) | (with_reducible refine Kd.C_drew ?_)))
                (case side2 => exact (Kd.R_reads' HO411.out).2.1)
                (case side3 => repeat (first | exact (Kd.C_below HR416_2.out HB.out) | (with_reducible refine Kd.C_alloc ?_ _) | (with_reducible refine Kd.C_drewN ?_ _) | (with_reducible refine Kd.C_drew ?_)))
                (case side4 => exact HC416_2.out)
                rintro e w66 ⟨rfl, hb⟩
                refine ⟨_, rfl, ?_⟩
                have n0_ := Am (Kd.R_below (by (with_reducible repeat (first | apply Kd.R_alloc | apply Kd.R_drewN | apply Kd.R_drew)); exact HO_399002.out) hb)
                have n1_ := Am (Kd.R_below (by (with_reducible repeat (first | apply Kd.R_alloc | apply Kd.R_drewN | apply Kd.R_drew)); exact HO411.out) hb)
                have n2_ := Am (blk_below (g := gb398) (o := .cells #[.int .i64 t390, .int .i64 t391, .slice Ao20 t392.length co20, .string t395] 24 (0, 0)) (by (with_reducible repeat (first | refine bn ?_ _ | refine bd ?_ | refine ba ?_ _)); exact BK398.out) hb)
                have n3_ := Am (blk_below (g := gb415) (o := .cells #[.int .i64 t407, .int .i64 t408, .slice Ao60 t409.length co60, .string t412] 24 (0, 0)) (by (with_reducible repeat (first | refine bn ?_ _ | refine bd ?_ | refine ba ?_ _)); exact BK415.out) hb)
                have n4_ := Am (below_step (by repeat (first | (with_reducible first | exact HB.out | apply bl | apply pN | apply b1 | refine bs ?_ GE398.out | refine bs ?_ GE415.out) | exact HB.out | exact HBo.out)) hb)
                clear HO_399002
                clear HO411
                clear BK398
                clear BK415
                clear HB
                have HO_399002 := n0_
                have HO411 := n1_
                have BK398 := n2_
                have BK415 := n3_
                have HB := n4_
                clear n0_ n1_ n2_ n3_ n4_
                (try clear hb)
                (try clear hb2)
                (try clear hk)
                (try clear hi)
                refine hK.out _ _ ⟨(bc BK415.out 0).trans rfl, (bc BK415.out 1).trans rfl, (bc BK415.out 2).trans rfl, (bc BK415.out 3).trans rfl, ((HB.out.cell (World.block_lt_of_cell? w _ hw416_0)).trans hw416_0), ((HB.out.cell (World.block_lt_of_cell? w _ hw416_1)).trans hw416_1), ((HB.out.cell (World.block_lt_of_cell? w _ hw416_2)).trans hw416_2), ((HB.out.cell (World.block_lt_of_cell? w _ hw416_3)).trans hw416_3)⟩ (fun hHeld => ?_)
                clear hK K
                refine norm_ (a' := ?_) ?_ ?_
                rotate_left
                ·
                 show Act.put _ (some 109) _ = _
                 simp only [Act.put, sI, sZ, sS, i64_w, i32_w]
                 rfl
                refine Own.pr_ 9 (some 110) q15_35 HT_ (h := ?_)
                refine Own.pr_ 10 (some 111) q15_36 HT_ (h := ?_)
                refine done_ (done_of HT_.out (by kernel_rfl)) ?_
                try go_wp2
                go_meet
                case rel => exact ⟨_, (!t417), (by first | rfl | (simp; done) | (simp [*]; done)), H', ⟨by have := HJ3.out; have := HJ15.out; have := HK3.out; have := HK4.out; first | omega | exact Nat.le_refl _⟩, ⟨by (with_reducible repeat (first | apply Kd.R_alloc | apply Kd.R_drewN | apply Kd.R_drew)); exact HO_399002.out⟩, ⟨by (with_reducible repeat (first | apply Kd.R_alloc | apply Kd.R_drewN | apply Kd.R_drew)); exact HO411.out⟩, ⟨by (with_reducible repeat (first | refine bn ?_ _ | refine bd ?_ | refine ba ?_ _)); exact BK398.out⟩, ⟨by (with_reducible repeat (first | refine bn ?_ _ | refine bd ?_ | refine ba ?_ _)); exact BK415.out⟩, ⟨by repeat (first | (with_reducible first | exact HB.out | apply bl | apply pN | apply b1 | refine bs ?_ GE398.out | refine bs ?_ GE415.out) | exact HB.out | exact HBo.out)⟩⟩
               ·
                rw [if_neg c62] at H
                exact absurd H (by simp)
              ·
               rw [if_neg c61] at H
               have c61b0 : (t414 == 0) = false := beq_eq_false_iff_ne.mpr c61
               have c61b1 : (t414 != 0) = true := bne_iff_ne.mpr c61
               (first | rw [c61b0] | (simp only [i64_w, i32_w]; rw [c61b0]) | skip)
               have H' := Am H
               clear H
               try go_wp2
               have n0_ : Aside0 (Kd.R (Kd.int .i64) 3 ((((w57.setCell ⟨gb415, 0, none⟩ (.int .i64 t407)).setCell ⟨gb415, 1, none⟩ (.int .i64 t408)).setCell ⟨gb415, 2, none⟩ (.slice Ao60 t409.length co60)).setCell ⟨gb415, 3, none⟩ (.string t412)) w.heap.size (fun k_ => some k_ ≠ (.slice Ao60 t409.length co60 : Value).ownBlock) (.slice Ao20 t392.length co20) t392) := ⟨by (with_reducible repeat (first | apply Kd.R_alloc | apply Kd.R_drewN | apply Kd.R_drew)); exact Kd.R_mono (Kd.R_far (p := ⟨gb415, 3, none⟩) (Kd.R_far (p := ⟨gb415, 2, none⟩) (Kd.R_far (p := ⟨gb415, 1, none⟩) (Kd.R_far (p := ⟨gb415, 0, none⟩) (Kd.R_types HO_399002.out BK415.out (by decide)) (fun _ hk => hk.2) (.int .i64 t407)) (fun _ hk => hk.2) (.int .i64 t408)) (fun _ hk => hk.2) (.slice Ao60 t409.length co60)) (fun _ hk => hk.2) (.string t412)) (fun _ hk => hk.1.2)⟩
               have n1_ : Aside0 (Kd.R (Kd.int .i64) 3 ((((w57.setCell ⟨gb415, 0, none⟩ (.int .i64 t407)).setCell ⟨gb415, 1, none⟩ (.int .i64 t408)).setCell ⟨gb415, 2, none⟩ (.slice Ao60 t409.length co60)).setCell ⟨gb415, 3, none⟩ (.string t412)) w.heap.size (fun k_ => some k_ ≠ (.slice Ao20 t392.length co20 : Value).ownBlock) (.slice Ao60 t409.length co60) t409) := ⟨by (with_reducible repeat (first | apply Kd.R_alloc | apply Kd.R_drewN | apply Kd.R_drew)); exact Kd.R_mono (Kd.R_far (p := ⟨gb415, 3, none⟩) (Kd.R_far (p := ⟨gb415, 2, none⟩) (Kd.R_far (p := ⟨gb415, 1, none⟩) (Kd.R_far (p := ⟨gb415, 0, none⟩) (Kd.R_types HO411.out BK415.out (by decide)) (fun _ hk => hk.2) (.int .i64 t407)) (fun _ hk => hk.2) (.int .i64 t408)) (fun _ hk => hk.2) (.slice Ao60 t409.length co60)) (fun _ hk => hk.2) (.string t412)) (fun _ hk => hk.1.2)⟩
               have n2_ : Aside0 (((((w57.setCell ⟨gb415, 0, none⟩ (.int .i64 t407)).setCell ⟨gb415, 1, none⟩ (.int .i64 t408)).setCell ⟨gb415, 2, none⟩ (.slice Ao60 t409.length co60)).setCell ⟨gb415, 3, none⟩ (.string t412)).heap[gb398]? = some (.cells #[.int .i64 t390, .int .i64 t391, .slice Ao20 t392.length co20, .string t395] 24 (0, 0))) := ⟨by (with_reducible repeat (first | refine bn ?_ _ | refine bd ?_ | refine ba ?_ _)); refine blk_far ?_ NB398_415.out _; (with_reducible repeat (first | refine bn ?_ _ | refine bd ?_ | refine ba ?_ _)); refine blk_far ?_ NB398_415.out _; (with_reducible repeat (first | refine bn ?_ _ | refine bd ?_ | refine ba ?_ _)); refine blk_far ?_ NB398_415.out _; (with_reducible repeat (first | refine bn ?_ _ | refine bd ?_ | refine ba ?_ _)); refine blk_far ?_ NB398_415.out _; (with_reducible repeat (first | refine bn ?_ _ | refine bd ?_ | refine ba ?_ _)); exact BK398.out⟩
               have n3_ : Aside0 (((((w57.setCell ⟨gb415, 0, none⟩ (.int .i64 t407)).setCell ⟨gb415, 1, none⟩ (.int .i64 t408)).setCell ⟨gb415, 2, none⟩ (.slice Ao60 t409.length co60)).setCell ⟨gb415, 3, none⟩ (.string t412)).heap[gb415]? = some (.cells #[.int .i64 t407, .int .i64 t408, .slice Ao60 t409.length co60, .string t412] 24 (0, 0))) := ⟨by (with_reducible repeat (first | refine bn ?_ _ | refine bd ?_ | refine ba ?_ _)); refine blk_put (cs := #[.int .i64 t407, .int .i64 t408, .slice Ao60 t409.length co60, .string (⟨#[]⟩ : ByteArray)]) ?_ 3 _ rfl; (with_reducible repeat (first | refine bn ?_ _ | refine bd ?_ | refine ba ?_ _)); refine blk_put (cs := #[.int .i64 t407, .int .i64 t408, .slice none 0 0, .string (⟨#[]⟩ : ByteArray)]) ?_ 2 _ rfl; (with_reducible repeat (first | refine bn ?_ _ | refine bd ?_ | refine ba ?_ _)); refine blk_put (cs := #[.int .i64 t407, .int .i64 0, .slice none 0 0, .string (⟨#[]⟩ : ByteArray)]) ?_ 1 _ rfl; (with_reducible repeat (first | refine bn ?_ _ | refine bd ?_ | refine ba ?_ _)); refine blk_put (cs := #[.int .i64 0, .int .i64 0, .slice none 0 0, .string (⟨#[]⟩ : ByteArray)]) ?_ 0 _ rfl; (with_reducible repeat (first | refine bn ?_ _ | refine bd ?_ | refine ba ?_ _)); exact BK415.out⟩
               have n4_ : Aside0 (Below w.heap.size w ((((w57.setCell ⟨gb415, 0, none⟩ (.int .i64 t407)).setCell ⟨gb415, 1, none⟩ (.int .i64 t408)).setCell ⟨gb415, 2, none⟩ (.slice Ao60 t409.length co60)).setCell ⟨gb415, 3, none⟩ (.string t412))) := ⟨by repeat (first | (with_reducible first | exact HB.out | apply bl | apply pN | apply b1 | refine bs ?_ GE398.out | refine bs ?_ GE415.out) | exact HB.out | exact HBo.out)⟩
               (try clear HO_399002)
               (try clear HO411)
               (try clear BK398)
               (try clear BK415)
               (try clear HB)
               generalize ((((w57.setCell ⟨gb415, 0, none⟩ (.int .i64 t407)).setCell ⟨gb415, 1, none⟩ (.int .i64 t408)).setCell ⟨gb415, 2, none⟩ (.slice Ao60 t409.length co60)).setCell ⟨gb415, 3, none⟩ (.string t412)) = w67 at n0_ n1_ n2_ n3_ n4_ ⊢
               have HO_399002 := n0_
               have HO411 := n1_
               have BK398 := n2_
               have BK415 := n3_
               have HB := n4_
               clear n0_ n1_ n2_ n3_ n4_
               have n0_ := Am (Kd.R_drew HO_399002.out)
               have n1_ := Am (Kd.R_drew HO411.out)
               have n2_ := Am (bd BK398.out)
               have n3_ := Am (bd BK415.out)
               have n4_ := Am (b1 HB.out)
               clear HO_399002
               clear HO411
               clear BK398
               clear BK415
               clear HB
               have HO_399002 := n0_
               have HO411 := n1_
               have BK398 := n2_
               have BK415 := n3_
               have HB := n4_
               clear n0_ n1_ n2_ n3_ n4_
               refine start_ (n := 11) (S := fun w' => True) (ds := []) q15_25 (by kernel_rfl) rfl rfl trivial (fun hHeld => ?_); refine with_tabW shuttlecocklaw04_EventBack.tab18 shuttlecocklaw04_EventBack.bits18 (fun HT_ HW_ => ?_)
               generalize w67.drew = w68 at HO_399002 HO411 BK398 BK415 HB hHeld ⊢
               refine Own.pr_ 0 (some 101) q15_26 HT_ (h := ?_)
               refine Own.pr_ 1 (some 102) q15_27 HT_ (h := ?_)
               refine Own.pr_ 2 (some 103) q15_28 HT_ (h := ?_)
               refine Own.skips_ HT_.out [3, 4, 5, 6, 7, 8, 9] [some 104, some 105, some 106, some 107, some 108, some 109, some 110] 1 8 _ q15_35 _ ?_ _ rfl (by kernel_rfl) (fun _ _ _ _ h => h) (by kernel_rfl) ?_ ?_
               rotate_left
               ·
                simp only [Own.putU, Act.put, sI, sZ, sS]
                rfl
               refine Own.pr_ 10 (some 111) q15_36 HT_ (h := ?_)
               refine done_ (done_of HT_.out (by kernel_rfl)) ?_
               try go_wp2
               go_meet
               case rel => exact ⟨_, (true), (by first | rfl | (simp; done) | (simp [*]; done)), H', ⟨by have := HJ3.out; have := HJ15.out; have := HK3.out; have := HK4.out; first | omega | exact Nat.le_refl _⟩, ⟨by (with_reducible repeat (first | apply Kd.R_alloc | apply Kd.R_drewN | apply Kd.R_drew)); exact HO_399002.out⟩, ⟨by (with_reducible repeat (first | apply Kd.R_alloc | apply Kd.R_drewN | apply Kd.R_drew)); exact HO411.out⟩, ⟨by (with_reducible repeat (first | refine bn ?_ _ | refine bd ?_ | refine ba ?_ _)); exact BK398.out⟩, ⟨by (with_reducible repeat (first | refine bn ?_ _ | refine bd ?_ | refine ba ?_ _)); exact BK415.out⟩, ⟨by repeat (first | (with_reducible first | exact HB.out | apply bl | apply pN | apply b1 | refine bs ?_ GE398.out | refine bs ?_ GE415.out) | exact HB.out | exact HBo.out)⟩⟩
             case rest =>
              clear HC55
              try clear c1
              try clear c2
              try clear p2
              try clear c3
              try clear c4
              try clear p4
              try clear q4
              try clear hx4
              try clear c5
              try clear c6
              try clear p6
              try clear c10
              try clear c12
              try clear c14
              try clear c16
              try clear c21
              try clear c21b0
              try clear c21b1
              try clear c23
              try clear c24
              try clear c24b0
              try clear c30
              try clear c30b0
              try clear c30b1
              try clear c31
              try clear c31b0
              try clear c31b1
              try clear c40
              try clear p40
              try clear q40
              try clear hx40
              try clear c41
              try clear p41
              try clear q41
              try clear hx41
              try clear c42
              try clear c42b0
              try clear c43
              try clear c43b0
              try clear c45
              try clear c47
              try clear c47b0
              try clear c47b1
              try clear c47b2
              try clear c53
              try clear c53b0
              try clear c58
              try clear c61
              try clear c61b0
              try clear c61b1
              try clear c62
              try clear c62b0
              try clear p64
              try clear hcz59_0
              try clear hcz59_1
              try clear hcz59_2
              try clear hcz59_3
              try clear hfz59_0
              try clear hfz59_1
              try clear hfz59_2
              try clear hfz59_3
              try clear hx401_0
              try clear hx401_1
              try clear hx401_2
              try clear hx401_3
              try clear hx403_0
              try clear hx403_1
              try clear hx403_2
              try clear hx403_3
              try clear hx405_0
              try clear hx405_1
              try clear hx405_2
              try clear hx405_3
              try clear hx416_0
              try clear hx416_1
              try clear hx416_2
              try clear hx416_3
              try clear p2
              try clear p4
              try clear p40
              try clear p401
              try clear p403
              try clear p405
              try clear p416
              try clear p6
              try clear q4
              try clear q40
              try clear q401
              try clear q403
              try clear q405
              try clear q416
              obtain ⟨kq, x111_54, rfl, HA, HJ54, HO_399002, HO_416002, BK398, BK415, HB⟩ := hcut
              cases kq with
              | zero => exact absurd HA.out (by simp [shuttlecocklaw04_EventBack.j4])
              | succ kj54 =>
               have H := HA.out
               clear HA
               simp only [shuttlecocklaw04_EventBack.j4] at H
               by_cases c69 : x111_54 = true
               ·
                subst c69
                have H1 : (none) = some r := by rw [if_pos rfl] at H; exact H
                clear H
                have H := H1
                clear H1
                exact absurd H (by simp)
               ·
                replace c69 := Bool.eq_false_iff.mpr c69
                subst c69
                have H1 : (if a1 ≥ x12_4 then (shuttlecocklaw04_EventBack.j5 kj54 l0 a1 x10_3 x12_4 x13_4 t413 (decide (a1 < t413))) else (shuttlecocklaw04_EventBack.j5 kj54 l0 a1 x10_3 x12_4 x13_4 t413 false)) = some r := by rw [if_neg (show ¬ (false = true) by decide)] at H; exact H
                clear H
                have H := H1
                clear H1
                have HC70 := Am H
                clear H
                go_upto_region 20 with (fail)
                go_cut [119] (fun v119 wc => ∃ (kq : Nat) (x119_69 : Bool), v119 = .bool x119_69 ∧ Aside0 (shuttlecocklaw04_EventBack.j5 kq l0 a1 x10_3 x12_4 x13_4 t413 x119_69 = some r) ∧ Aside0 (kq ≤ kj54) ∧ Aside0 (Kd.R (Kd.int .i64) 3 wc w.heap.size (fun k_ => some k_ ≠ ((.slice Ao60 t409.length co60) : Value).ownBlock) (.slice Ao20 t392.length co20) t392) ∧ Aside0 (Kd.R (Kd.int .i64) 3 wc w.heap.size (fun k_ => some k_ ≠ ((.slice Ao20 t392.length co20) : Value).ownBlock) (.slice Ao60 t409.length co60) t409) ∧ Aside0 (wc.heap[gb398]? = some (.cells #[.int .i64 t390, .int .i64 t391, (.slice Ao20 t392.length co20), .string t395] 24 (0, 0))) ∧ Aside0 (wc.heap[gb415]? = some (.cells #[.int .i64 t407, .int .i64 t408, (.slice Ao60 t409.length co60), .string t412] 24 (0, 0))) ∧ Aside0 (Below w.heap.size w wc))
                case first =>
                 have H := HC70.out
                 clear HC70
                 by_cases c71 : a1 ≥ x12_4
                 ·
                  rw [if_pos c71] at H
                  have c71b0 : decide (x12_4 ≤ a1) = true := decide_eq_true c71
                  clear c71
                  (first | rw [c71b0] | (simp only [i64_w, i32_w]; rw [c71b0]) | skip)
                  have H' := Am H
                  clear H
                  go_wp2
                  go_meet
                  case rel => exact ⟨_, (decide (a1 < t413)), (by first | rfl | (simp; done) | (simp [*]; done)), H', ⟨by have := HJ3.out; have := HJ15.out; have := HK3.out; have := HK4.out; have := HJ54.out; first | omega | exact Nat.le_refl _⟩, ⟨by (with_reducible repeat (first | apply Kd.R_alloc | apply Kd.R_drewN | apply Kd.R_drew)); exact HO_399002.out⟩, ⟨by (with_reducible repeat (first | apply Kd.R_alloc | apply Kd.R_drewN | apply Kd.R_drew)); exact HO_416002.out⟩, ⟨by (with_reducible repeat (first | refine bn ?_ _ | refine bd ?_ | refine ba ?_ _)); exact BK398.out⟩, ⟨by (with_reducible repeat (first | refine bn ?_ _ | refine bd ?_ | refine ba ?_ _)); exact BK415.out⟩, ⟨by repeat (first | (with_reducible first | exact HB.out | apply bl | apply pN | apply b1 | refine bs ?_ GE398.out | refine bs ?_ GE415.out) | exact HB.out | exact HBo.out)⟩⟩
                 ·
                  rw [if_neg c71] at H
                  have c71b0 : decide (x12_4 ≤ a1) = false := decide_eq_false c71
                  clear c71
                  (first | rw [c71b0] | (simp only [i64_w, i32_w]; rw [c71b0]) | skip)
                  have H' := Am H
                  clear H
                  go_wp2
                  go_meet
                  case rel => exact ⟨_, (false), (by first | rfl | (simp; done) | (simp [*]; done)), H', ⟨by have := HJ3.out; have := HJ15.out; have := HK3.out; have := HK4.out; have := HJ54.out; first | omega | exact Nat.le_refl _⟩, ⟨by (with_reducible repeat (first | apply Kd.R_alloc | apply Kd.R_drewN | apply Kd.R_drew)); exact HO_399002.out⟩, ⟨by (with_reducible repeat (first | apply Kd.R_alloc | apply Kd.R_drewN | apply Kd.R_drew)); exact HO_416002.out⟩, ⟨by (with_reducible repeat (first | refine bn ?_ _ | refine bd ?_ | refine ba ?_ _)); exact BK398.out⟩, ⟨by (with_reducible repeat (first | refine bn ?_ _ | refine bd ?_ | refine ba ?_ _)); exact BK415.out⟩, ⟨by repeat (first | (with_reducible first | exact HB.out | apply bl | apply pN | apply b1 | refine bs ?_ GE398.out | refine bs ?_ GE415.out) | exact HB.out | exact HBo.out)⟩⟩
                case rest =>
                 clear HC70
                 try clear c1
                 try clear c2
                 try clear p2
                 try clear c3
                 try clear c4
                 try clear p4
                 try clear q4
                 try clear hx4
                 try clear c5
                 try clear c6
                 try clear p6
                 try clear c7
                 try clear c10
                 try clear c12
                 try clear c14
                 try clear c16
                 try clear c21
                 try clear c21b0
                 try clear c21b1
                 try clear c23
                 try clear c24
                 try clear c24b0
                 try clear c30
                 try clear c30b0
                 try clear c30b1
                 try clear c31
                 try clear c31b0
                 try clear c31b1
                 try clear c40
                 try clear p40
                 try clear q40
                 try clear hx40
                 try clear c41
                 try clear p41
                 try clear q41
                 try clear hx41
                 try clear c42
                 try clear c42b0
                 try clear c43
                 try clear c43b0
                 try clear c45
                 try clear c47
                 try clear c47b0
                 try clear c47b1
                 try clear c47b2
                 try clear c53
                 try clear c53b0
                 try clear c58
                 try clear c61
                 try clear c61b0
                 try clear c61b1
                 try clear c62
                 try clear c62b0
                 try clear p64
                 try clear c69
                 try clear c71
                 try clear c71b0
                 try clear hcz59_0
                 try clear hcz59_1
                 try clear hcz59_2
                 try clear hcz59_3
                 try clear hfz59_0
                 try clear hfz59_1
                 try clear hfz59_2
                 try clear hfz59_3
                 try clear hx401_0
                 try clear hx401_1
                 try clear hx401_2
                 try clear hx401_3
                 try clear hx403_0
                 try clear hx403_1
                 try clear hx403_2
                 try clear hx403_3
                 try clear hx405_0
                 try clear hx405_1
                 try clear hx405_2
                 try clear hx405_3
                 try clear hx416_0
                 try clear hx416_1
                 try clear hx416_2
                 try clear hx416_3
                 try clear p2
                 try clear p4
                 try clear p40
                 try clear p401
                 try clear p403
                 try clear p405
                 try clear p41
                 try clear p416
                 try clear p6
                 try clear p64
                 try clear q4
                 try clear q40
                 try clear q401
                 try clear q403
                 try clear q405
                 try clear q41
                 try clear q416
                 obtain ⟨kq, x119_69, rfl, HA, HJ69, HO_399002, HO_416002, BK398, BK415, HB⟩ := hcut
                 cases kq with
                 | zero => exact absurd HA.out (by simp [shuttlecocklaw04_EventBack.j5])
                 | succ kj69 =>
                  have H := HA.out
                  clear HA
                  simp only [shuttlecocklaw04_EventBack.j5] at H
                  by_cases c72 : x119_69 = true
                  ·
                   subst c72
                   have H1 : (if 0 ≤ a1 then (if a1 ≤ (x10_3.size : Int) then ((event_Decode.f kj69 (x10_3.extract 0 (a1 : Int).toNat) x12_4).bind fun bt418 => (if bt418.2.2.2.2.2 = 10 then (shuttlecocklaw04_EventBack.l1 kj69 l0 a1 x10_3 t413 (wrap64 (x13_4 + 1))) else (none))) else (none)) else (none)) = some r := by rw [if_pos rfl] at H; exact H
                   clear H
                   have H := H1
                   clear H1
                   by_cases c73 : 0 ≤ a1
                   ·
                    rw [if_pos c73] at H
                    have c73b0 := eq_true c73
                    have c73b1 : decide (0 ≤ a1) = true := decide_eq_true c73
                    clear c73
                    by_cases c74 : a1 ≤ (x10_3.size : Int)
                    ·
                     rw [if_pos c74] at H
                     have c74b0 := eq_true c74
                     have c74b1 : decide (a1 ≤ (x10_3.size : Int)) = true := decide_eq_true c74
                     clear c74
                     replace H := ob H
                     obtain ⟨⟨t418, t419, t420, t423, t424, t425⟩, A750, H⟩ := H
                     replace H : (if t425 = 10 then (shuttlecocklaw04_EventBack.l1 kj69 l0 a1 x10_3 t413 (wrap64 (x13_4 + 1))) else (none)) = some r := H
                     have A75 := Am A750
                     clear A750
                     by_cases c76 : t425 = 10
                     ·
                      rw [if_pos c76] at H
                      have c76b0 : (t425 == 10) = true := beq_iff_eq.mpr c76
                      have c76b1 : (t425 != 10) = false := bne_eq_false_iff_eq.mpr c76
                      clear c76
                      have H' := Am H
                      clear H
                      go_wp2_with (first | ((with_reducible refine gate_callee (f := 10) rfl ?_); refine goesL_ (some 125) rfl rfl Try.func10 (by kernel_rfl) rfl #[.string (x10_3.extract 0 (a1 : Int).toNat), .int .i64 x12_4] rfl (by (try simp only [List.map_toArray, List.map_cons, List.map_nil]); first | done | rfl | (simp only [List.length_drop, List.length_take]; rfl)) ?_; (with_reducible refine (event_Decode.calls kj69 (x10_3.extract 0 (a1 : Int).toNat) x12_4 t418 t419 t420 t423 t424 t425 _ A75.out).mono ?_); rintro e w77 ⟨v421, rfl, ho0, hb⟩; refine ⟨_, rfl, ?_⟩; have n0_ := Am (Kd.R_elder' (by (with_reducible repeat (first | apply Kd.R_alloc | apply Kd.R_drewN | apply Kd.R_drew)); exact HO_399002.out) (Kd.R_base ho0) hb); have n1_ := Am (Kd.R_elder' (by (with_reducible repeat (first | apply Kd.R_alloc | apply Kd.R_drewN | apply Kd.R_drew)); exact HO_416002.out) (Kd.R_base ho0) hb); have n2_ := Am (Kd.R_lower (Kd.R_new' (Kd.R_new' ho0 (Kd.R_lt (by (with_reducible repeat (first | apply Kd.R_alloc | apply Kd.R_drewN | apply Kd.R_drew)); exact HO_399002.out))) (Kd.R_lt (by (with_reducible repeat (first | apply Kd.R_alloc | apply Kd.R_drewN | apply Kd.R_drew)); exact HO_416002.out))) (below_size (by repeat (first | (with_reducible first | exact HB.out | apply bl | apply pN | apply b1 | refine bs ?_ GE398.out | refine bs ?_ GE415.out) | exact HB.out | exact HBo.out)))); have n3_ := Am (blk_below (g := gb398) (o := .cells #[.int .i64 t390, .int .i64 t391, .slice Ao20 t392.length co20, .string t395] 24 (0, 0)) (by (with_reducible repeat (first | refine bn ?_ _ | refine bd ?_ | refine ba ?_ _)); exact BK398.out) hb); have n4_ := Am (blk_below (g := gb415) (o := .cells #[.int .i64 t407, .int .i64 t408, .slice Ao60 t409.length co60, .string t412] 24 (0, 0)) (by (with_reducible repeat (first | refine bn ?_ _ | refine bd ?_ | refine ba ?_ _)); exact BK415.out) hb); have n5_ := Am (below_step (by repeat (first | (with_reducible first | exact HB.out | apply bl | apply pN | apply b1 | refine bs ?_ GE398.out | refine bs ?_ GE415.out) | exact HB.out | exact HBo.out)) hb); clear HO_399002; clear HO_416002; clear BK398; clear BK415; clear HB; have HO_399002 := n0_; have HO_416002 := n1_; have HO422 := n2_; have BK398 := n3_; have BK415 := n4_; have HB := n5_; clear n0_ n1_ n2_ n3_ n4_ n5_; (try clear hb); (try clear hb2); (try clear hk); (try clear hi); (try clear ho0)) | ((with_reducible refine gate_dst (N := 17) rfl ?_); (try (refine gate_guard (by rfl) ?_; dsimp only)); refine box_event ?hg (N := 17) ?hd (cs := #[.int .i64 0, .int .i64 0, .slice none 0 0, .string (⟨#[]⟩ : ByteArray)]) (t := 24) ?hr ?_; (case hd => rfl); (case hg => rfl); (case hr => first | (go_simp; done) | (go_simp; rfl)); intro gb426 hg w78 hbox hb; have n0_ := Am (Kd.R_below (by (with_reducible repeat (first | apply Kd.R_alloc | apply Kd.R_drewN | apply Kd.R_drew)); exact HO_399002.out) hb); have n1_ := Am (Kd.R_below (by (with_reducible repeat (first | apply Kd.R_alloc | apply Kd.R_drewN | apply Kd.R_drew)); exact HO_416002.out) hb); have n2_ := Am (Kd.R_below (by (with_reducible repeat (first | apply Kd.R_alloc | apply Kd.R_drewN | apply Kd.R_drew)); exact HO422.out) hb); have n3_ := Am (blk_below (g := gb398) (o := .cells #[.int .i64 t390, .int .i64 t391, .slice Ao20 t392.length co20, .string t395] 24 (0, 0)) (by (with_reducible repeat (first | refine bn ?_ _ | refine bd ?_ | refine ba ?_ _)); exact BK398.out) hb); have n4_ := Am (blk_below (g := gb415) (o := .cells #[.int .i64 t407, .int .i64 t408, .slice Ao60 t409.length co60, .string t412] 24 (0, 0)) (by (with_reducible repeat (first | refine bn ?_ _ | refine bd ?_ | refine ba ?_ _)); exact BK415.out) hb); have n5_ := Am (below_step (by repeat (first | (with_reducible first | exact HB.out | apply bl | apply pN | apply b1 | refine bs ?_ GE398.out | refine bs ?_ GE415.out) | exact HB.out | exact HBo.out)) hb); have n6_ := Am (hbox); have n7_ := Am ((by rw [hg]; exact (below_size (by repeat (first | (with_reducible first | exact HB.out | apply bl | apply pN | apply b1 | refine bs ?_ GE398.out | refine bs ?_ GE415.out) | exact HB.out | exact HBo.out))) : w.heap.size ≤ gb426)); have n8_ := Am ((by rw [hg]; exact (below_size (by repeat (first | (with_reducible first | exact HB.out | apply bl | apply pN | apply b1 | refine bs ?_ GE398.out | refine bs ?_ GE415.out) | exact HB.out | exact HBo.out))) : w.heap.size ≤ gb426)); have n9_ := Am ((by rw [hg]; exact Nat.ne_of_lt (blk_lt (g := gb398) (o := .cells #[.int .i64 t390, .int .i64 t391, .slice Ao20 t392.length co20, .string t395] 24 (0, 0)) (by (with_reducible repeat (first | refine bn ?_ _ | refine bd ?_ | refine ba ?_ _)); exact BK398.out)) : gb398 ≠ gb426)); have n10_ := Am ((by rw [hg]; exact Nat.ne_of_gt (blk_lt (g := gb398) (o := .cells #[.int .i64 t390, .int .i64 t391, .slice Ao20 t392.length co20, .string t395] 24 (0, 0)) (by (with_reducible repeat (first | refine bn ?_ _ | refine bd ?_ | refine ba ?_ _)); exact BK398.out)) : gb426 ≠ gb398)); have n11_ := Am ((by rw [hg]; exact Nat.ne_of_lt (blk_lt (g := gb415) (o := .cells #[.int .i64 t407, .int .i64 t408, .slice Ao60 t409.length co60, .string t412] 24 (0, 0)) (by (with_reducible repeat (first | refine bn ?_ _ | refine bd ?_ | refine ba ?_ _)); exact BK415.out)) : gb415 ≠ gb426)); have n12_ := Am ((by rw [hg]; exact Nat.ne_of_gt (blk_lt (g := gb415) (o := .cells #[.int .i64 t407, .int .i64 t408, .slice Ao60 t409.length co60, .string t412] 24 (0, 0)) (by (with_reducible repeat (first | refine bn ?_ _ | refine bd ?_ | refine ba ?_ _)); exact BK415.out)) : gb426 ≠ gb415)); clear HO_399002; clear HO_416002; clear HO422; clear BK398; clear BK415; clear HB; have HO_399002 := n0_; have HO_416002 := n1_; have HO422 := n2_; have BK398 := n3_; have BK415 := n4_; have HB := n5_; have BK426 := n6_; have GW426 := n7_; have GE426 := n8_; have NB398_426 := n9_; have NB426_398 := n10_; have NB415_426 := n11_; have NB426_415 := n12_; clear n0_ n1_ n2_ n3_ n4_ n5_ n6_ n7_ n8_ n9_ n10_ n11_ n12_; clear hb hbox hg; have hnb79 := NB426_398.out; have hnc79 := NB398_426.out; have hnb80 := NB426_415.out; have hnc80 := NB415_426.out; have hcz81_0 : w78.cell? ⟨gb426, 0, none⟩ = some (.int .i64 0) := (bc BK426.out 0).trans rfl; have hcz81_1 : w78.cell? ⟨gb426, 1, none⟩ = some (.int .i64 0) := (bc BK426.out 1).trans rfl; have hcz81_2 : w78.cell? ⟨gb426, 2, none⟩ = some (.slice none 0 0) := (bc BK426.out 2).trans rfl; have hcz81_3 : w78.cell? ⟨gb426, 3, none⟩ = some (.string (⟨#[]⟩ : ByteArray)) := (bc BK426.out 3).trans rfl; have hfz81_0 := bf BK426.out 0; have hfz81_1 := bf BK426.out 1; have hfz81_2 := bf BK426.out 2; have hfz81_3 := bf BK426.out 3; obtain ⟨Ao82, co82, eo82⟩ := Kd.R_slice HO422.out; subst eo82))
                      go_roundg kj69
                      case measure => have := HJ3.out; have := HJ15.out; have := HK3.out; have := HK4.out; have := HJ54.out; have := HJ69.out; omega
                      case rel => exact ⟨(t413), (wrap64 (x13_4 + 1)), (by first | rfl | (simp; done) | (simp [*]; done)), (by first | rfl | (simp; done) | (simp [*]; done)), H', ⟨by have := HJ3.out; have := HJ15.out; have := HK3.out; have := HK4.out; have := HJ54.out; have := HJ69.out; omega⟩, ⟨by (with_reducible repeat (first | apply Kd.R_alloc | apply Kd.R_drewN | apply Kd.R_drew)); exact Kd.R_mono (Kd.R_far (p := ⟨gb426, 3, none⟩) (Kd.R_far (p := ⟨gb426, 2, none⟩) (Kd.R_far (p := ⟨gb426, 1, none⟩) (Kd.R_far (p := ⟨gb426, 0, none⟩) (Kd.R_types HO_399002.out BK426.out (by decide)) (fun _ hk => hk.2) (.int .i64 t418)) (fun _ hk => hk.2) (.int .i64 t419)) (fun _ hk => hk.2) (.slice Ao82 t420.length co82)) (fun _ hk => hk.2) (.string t423)) (fun _ hk => trivial)⟩, ⟨by (with_reducible repeat (first | refine bn ?_ _ | refine bd ?_ | refine ba ?_ _)); refine blk_far ?_ NB398_426.out _; (with_reducible repeat (first | refine bn ?_ _ | refine bd ?_ | refine ba ?_ _)); refine blk_far ?_ NB398_426.out _; (with_reducible repeat (first | refine bn ?_ _ | refine bd ?_ | refine ba ?_ _)); refine blk_far ?_ NB398_426.out _; (with_reducible repeat (first | refine bn ?_ _ | refine bd ?_ | refine ba ?_ _)); refine blk_far ?_ NB398_426.out _; (with_reducible repeat (first | refine bn ?_ _ | refine bd ?_ | refine ba ?_ _)); exact BK398.out⟩, ⟨by repeat (first | (with_reducible first | exact HB.out | apply bl | apply pN | apply b1 | refine bs ?_ GE398.out | refine bs ?_ GE415.out | refine bs ?_ GE426.out) | exact HB.out | exact HBo.out)⟩⟩
                     ·
                      rw [if_neg c76] at H
                      exact absurd H (by simp)
                    ·
                     rw [if_neg c74] at H
                     exact absurd H (by simp)
                   ·
                    rw [if_neg c73] at H
                    exact absurd H (by simp)
                  ·
                   replace c72 := Bool.eq_false_iff.mpr c72
                   subst c72
                   have H1 : (shuttlecocklaw04_EventBack.l1 kj69 l0 a1 x10_3 t413 (wrap64 (x13_4 + 1))) = some r := by rw [if_neg (show ¬ (false = true) by decide)] at H; exact H
                   clear H
                   have H := H1
                   clear H1
                   have H' := Am H
                   clear H
                   go_wp2
                   go_roundg kj69
                   case measure => have := HJ3.out; have := HJ15.out; have := HK3.out; have := HK4.out; have := HJ54.out; have := HJ69.out; omega
                   case rel => exact ⟨(t413), (wrap64 (x13_4 + 1)), (by first | rfl | (simp; done) | (simp [*]; done)), (by first | rfl | (simp; done) | (simp [*]; done)), H', ⟨by have := HJ3.out; have := HJ15.out; have := HK3.out; have := HK4.out; have := HJ54.out; have := HJ69.out; omega⟩, ⟨by (with_reducible repeat (first | apply Kd.R_alloc | apply Kd.R_drewN | apply Kd.R_drew)); exact Kd.R_mono HO_399002.out (fun _ hk => trivial)⟩, ⟨by (with_reducible repeat (first | refine bn ?_ _ | refine bd ?_ | refine ba ?_ _)); exact BK398.out⟩, ⟨by repeat (first | (with_reducible first | exact HB.out | apply bl | apply pN | apply b1 | refine bs ?_ GE398.out | refine bs ?_ GE415.out) | exact HB.out | exact HBo.out)⟩⟩
            ·
             rw [if_neg c53] at H
             have c53b0 : decide (x13_4 < (l0.length : Int)) = false := decide_eq_false c53
             clear c53
             obtain rfl := Option.some.inj H
             go_wp2
             go_ret
             exact ⟨by first | rfl | (simp [errW_none, errW_some] <;> rfl) | (simp [*, errW_none, errW_some] <;> rfl) | (simp [Aid.ne_nil, Aid.eq_nil, errW_none, errW_some]; done), by repeat (first | (with_reducible first | exact HB.out | apply bl | apply pN | apply b1 | refine bs ?_ GE398.out) | exact HB.out | exact HBo.out)⟩

/-- THE ONE PURE STATEMENT of shuttlecocklaw04_EventBack (own row). -/
def shuttlecocklaw04_EventBack.Pure : Prop := ∀ (y0 : List (S24)) (y1 : Int) (y2 : ByteArray), ((∀ e2 ∈ y0, ((Lit.int .i64 e2.f0).wf = true ∧ (Lit.int .i64 e2.f1).wf = true ∧ ((∀ e6 ∈ e2.f2, (Lit.int .i64 e6).wf = true) ∧ e2.f2.length ≤ maxLen) ∧ e2.f3.size ≤ maxLen)) ∧ y0.length ≤ maxLen) → (Lit.int .i64 y1).wf = true → y2.size ≤ maxLen → ∃ k, shuttlecocklaw04_EventBack.f k y0 y1 y2 = some true

end Go.Proofs.Ythechcflnkofgaa.Q
