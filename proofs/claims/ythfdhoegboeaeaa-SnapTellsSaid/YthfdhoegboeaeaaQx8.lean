-- printed by a program of this session (NOTES: hprint); not the kit's print
-- minified
-- halved
import Derived.Test.YthfdhoegboeaeaaAl
import Derived.Test.YthfdhoegboeaeaaQx0
import Derived.Test.YthfdhoegboeaeaaQx3
import Derived.Test.YthfdhoegboeaeaaQx5
import Derived.Test.YthfdhoegboeaeaaQx6
import Derived.Test.YthfdhoegboeaeaaQx7
namespace Go.Proofs.Ythfdhoegboeaeaa.Q
open Go.RowKit Go.Proofs.YthfdhoegboeaeaaW.PrintWords Go.Proofs.YthfdhoegboeaeaaW.PrintLast Go.Proofs.YthfdhoegboeaeaaW.PrintMore
attribute [local go_sem] max2_int min2_int max_two min_two max_three min_three max_four min_four   -- for this text's walks alone
set_option linter.unusedVariables false
set_option linter.unusedSimpArgs false

def q8_0 : Array Bool := let o := true; let z := false; #[z,z,z,z,z,z,z,z,z,z,z,z,z,z,z,z,z,z,z,z,z,z,z,z,z,z,z,z,z,z,z,z,z,z]
def q8_1 : Array Bool := let o := true; let z := false; #[o,z,z,z,z,z,z,z,z,z,z,z,z,z,z,z,z,z,z,z,z,z,z,z,z,z,z,z,z,z,z,z,z,z]
def q8_2 : Array Bool := let o := true; let z := false; #[o,o,z,z,z,z,z,z,z,z,z,z,z,z,z,z,z,z,z,z,z,z,z,z,z,z,z,z,z,z,z,z,z,z]
def q8_3 : Array Bool := let o := true; let z := false; #[o,o,o,z,z,z,z,z,z,z,z,z,z,z,z,z,z,z,z,z,z,z,z,z,z,z,z,z,z,z,z,z,z,z]
def q8_4 : Array Bool := let o := true; let z := false; #[o,o,o,o,z,z,z,z,z,z,z,z,z,z,z,z,z,z,z,z,z,z,z,z,z,z,z,z,z,z,z,z,z,z]
def q8_5 : Array Bool := let o := true; let z := false; #[o,o,o,o,o,z,z,z,z,z,z,z,z,z,z,z,z,z,z,z,z,z,z,z,z,z,z,z,z,z,z,z,z,z]
def q8_6 : Array Bool := let o := true; let z := false; #[o,o,o,o,o,o,z,z,z,z,z,z,z,z,z,z,z,z,z,z,z,z,z,z,z,z,z,z,z,z,z,z,z,z]
def q8_7 : Array Bool := let o := true; let z := false; #[o,o,o,o,o,o,o,z,z,z,z,z,z,z,z,z,z,z,z,z,z,z,z,z,z,z,z,z,z,z,z,z,z,z]
def q8_8 : Array Bool := let o := true; let z := false; #[o,o,o,o,o,o,o,o,z,z,z,z,z,z,z,z,z,z,z,z,z,z,z,z,z,z,z,z,z,z,z,z,z,z]
def q8_9 : Array Bool := let o := true; let z := false; #[o,o,o,o,o,o,o,o,o,z,z,z,z,z,z,z,z,z,z,z,z,z,z,z,z,z,z,z,z,z,z,z,z,z]
def q8_10 : Array Bool := let o := true; let z := false; #[o,o,o,o,o,o,o,o,o,o,z,z,z,z,z,z,z,z,z,z,z,z,z,z,z,z,z,z,z,z,z,z,z,z]
def q8_11 : Array Bool := let o := true; let z := false; #[o,o,o,o,o,o,o,o,o,o,o,z,z,z,z,z,z,z,z,z,z,z,z,z,z,z,z,z,z,z,z,z,z,z]
def q8_12 : Array Bool := let o := true; let z := false; #[o,o,o,o,o,o,o,o,o,o,o,o,z,z,z,z,z,z,z,z,z,z,z,z,z,z,z,z,z,z,z,z,z,z]
def q8_13 : Array Bool := let o := true; let z := false; #[o,o,o,o,o,o,o,o,o,o,o,o,o,z,z,z,z,z,z,z,z,z,z,z,z,z,z,z,z,z,z,z,z,z]
def q8_14 : Array Bool := let o := true; let z := false; #[o,o,o,o,o,o,o,o,o,o,o,o,o,o,z,z,z,z,z,z,z,z,z,z,z,z,z,z,z,z,z,z,z,z]
def q8_15 : Array Bool := let o := true; let z := false; #[o,o,o,o,o,o,o,o,o,o,o,o,o,o,o,z,z,z,z,z,z,z,z,z,z,z,z,z,z,z,z,z,z,z]
def q8_16 : Array Bool := let o := true; let z := false; #[o,o,o,o,o,o,o,o,o,o,o,o,o,o,o,o,z,z,z,z,z,z,z,z,z,z,z,z,z,z,z,z,z,z]
def q8_17 : Array Bool := let o := true; let z := false; #[o,o,o,o,o,o,o,o,o,o,o,o,o,o,o,o,o,z,z,z,z,z,z,z,z,z,z,z,z,z,z,z,z,z]
def q8_18 : Array Bool := let o := true; let z := false; #[o,o,o,o,o,o,o,o,o,o,o,o,o,o,o,o,o,o,z,z,z,z,z,z,z,z,z,z,z,z,z,z,z,z]
def q8_19 : Array Bool := let o := true; let z := false; #[o,o,o,o,o,o,o,o,o,o,o,o,o,o,o,o,o,o,o,z,z,z,z,z,z,z,z,z,z,z,z,z,z,z]
def q8_20 : Array Bool := let o := true; let z := false; #[o,o,o,o,o,o,o,o,o,o,o,o,o,o,o,o,o,o,o,o,z,z,z,z,z,z,z,z,z,z,z,z,z,z]
def q8_21 : Array Bool := let o := true; let z := false; #[o,o,o,o,o,o,o,o,o,o,o,o,o,o,o,o,o,o,o,o,o,z,z,z,z,z,z,z,z,z,z,z,z,z]
def q8_22 : Array Bool := let o := true; let z := false; #[o,o,o,o,o,o,o,o,o,o,o,o,o,o,o,o,o,o,o,o,o,o,z,z,z,z,z,z,z,z,z,z,z,z]
def q8_23 : Array Bool := let o := true; let z := false; #[o,o,o,o,o,o,o,o,o,o,o,o,o,o,o,o,o,o,o,o,o,o,o,z,z,z,z,z,z,z,z,z,z,z]
def q8_24 : Array Bool := let o := true; let z := false; #[o,o,o,o,o,o,o,o,o,o,o,o,o,o,o,o,o,o,o,o,o,o,o,o,z,z,z,z,z,z,z,z,z,z]
def q8_25 : Array Bool := let o := true; let z := false; #[o,o,o,o,o,o,o,o,o,o,o,o,o,o,o,o,o,o,o,o,o,o,o,o,o,z,z,z,z,z,z,z,z,z]
def q8_26 : Array Bool := let o := true; let z := false; #[o,o,o,o,o,o,o,o,o,o,o,o,o,o,o,o,o,o,o,o,o,o,o,o,o,o,z,z,z,z,z,z,z,z]
def q8_27 : Array Bool := let o := true; let z := false; #[o,o,o,o,o,o,o,o,o,o,o,o,o,o,o,o,o,o,o,o,o,o,o,o,o,o,o,z,z,z,z,z,z,z]
def q8_28 : Array Bool := let o := true; let z := false; #[o,o,o,o,o,o,o,o,o,o,o,o,o,o,o,o,o,o,o,o,o,o,o,o,o,o,o,o,z,z,z,z,z,z]
def q8_29 : Array Bool := let o := true; let z := false; #[o,o,o,o,o,o,o,o,o,o,o,o,o,o,o,o,o,o,o,o,o,o,o,o,o,o,o,o,o,z,z,z,z,z]
def q8_30 : Array Bool := let o := true; let z := false; #[o,o,o,o,o,o,o,o,o,o,o,o,o,o,o,o,o,o,o,o,o,o,o,o,o,o,o,o,o,o,z,z,z,z]
def q8_31 : Array Bool := let o := true; let z := false; #[o,o,o,o,o,o,o,o,o,o,o,o,o,o,o,o,o,o,o,o,o,o,o,o,o,o,o,o,o,o,o,z,z,z]
def q8_32 : Array Bool := let o := true; let z := false; #[o,o,o,o,o,o,o,o,o,o,o,o,o,o,o,o,o,o,o,o,o,o,o,o,o,o,o,o,o,o,o,o,z,z]
def q8_33 : Array Bool := let o := true; let z := false; #[o,o,o,o,o,o,o,o,o,o,o,o,o,o,o,o,o,o,o,o,o,o,o,o,o,o,o,o,o,o,o,o,o,z]
def q8_34 : Array Bool := let o := true; let z := false; #[o,o,o,o,o,o,o,o,o,o,o,o,o,o,o,o,o,o,o,o,o,o,o,o,o,o,o,o,o,o,o,o,o,o]
/-! ### shuttlecocklaw08_fixed: function 9 -/
def shuttlecocklaw08_fixed.f (k : Nat)  : Option (Bool) := (shuttlecocklaw08_one.f).bind fun bt204 => ((snap_Encode.f k bt204.1 bt204.2.1 bt204.2.2).bind fun t211 => ((snap_Decode.f k t211).bind fun bt212 => (if t211.size + 1 ≤ 9223372036854775807 then ((snap_Decode.f k (t211 ++ (⟨#[120]⟩ : ByteArray))).bind fun bt221 => ((snap_Decode.f k (⟨#[]⟩ : ByteArray)).bind fun bt230 => ((shuttlecocklaw08_one.f).bind fun bt239 => (if 0 < (bt239.2.2.length : Int) then ((some (bt239.2.2.set (0 : Int).toNat (⟨(rd_T36 bt239.2.2 0).f0, (rd_T36 bt239.2.2 0).f1, 2, (rd_T36 bt239.2.2 0).f3⟩ : S36) : List (S36))).bind fun y247 => (if t211.toList = ([5, 1, 1, 2, 1, 1, 2, 1, 3] : List UInt8) then ((shuttlecocklaw08_one.f).bind fun bt248 => ((shuttlecockref08_Same.f k bt212.1 bt212.2.1 bt212.2.2.1 bt248.1 bt248.2.1 bt248.2.2).bind fun t255 => (if t255 = true then (if bt212.2.2.2 = 0 then (if bt221.2.2.2 = 80 then (if bt230.2.2.2 = 10 then ((shuttlecocklaw08_one.f).bind fun bt256 => ((snap_May.f bt256.1 bt256.2.1 bt256.2.2).bind fun t263 => (if t263 = true then ((snap_May.f bt239.1 bt239.2.1 y247).bind fun t264 => (if t264 = true then (none) else ((snap_Encode.f k bt239.1 bt239.2.1 y247).bind fun t265 => (some (t265.toList == ([] : List UInt8)))))) else (none)))) else (none)) else (none)) else (none)) else (none)))) else (none))) else (none))))) else (none))))
theorem shuttlecocklaw08_fixed.mono : ∀ k, LeO (shuttlecocklaw08_fixed.f k ) (shuttlecocklaw08_fixed.f (k + 1) ) := by
 intro  k
 unfold shuttlecocklaw08_fixed.f
 repeat' first
   | (with_reducible exact shuttlecockref08_Same.mono _ _ _ _ _ _ _)
   | (with_reducible exact snap_Decode.mono _ _)
   | (with_reducible exact snap_Encode.mono _ _ _ _)
   | (with_reducible exact LeO.refl _)
   | (with_reducible exact LeO.none _)
   | (with_reducible refine LeO.ite ?_ ?_)
   | (with_reducible refine LeO.bind ?_ (fun _ => ?_))
   | exact shuttlecockref08_Same.mono _ _ _ _ _ _ _
   | exact snap_Decode.mono _ _
   | exact snap_Encode.mono _ _ _ _
   | exact LeO.none _
   | refine LeO.ite ?_ ?_
   | refine LeO.bind ?_ (fun _ => ?_)
def shuttlecocklaw08_fixed.T7 : Bool × List (List Nat × List Nat) := (true, [([], []), ([0], [0]), ([1], [1]), ([2], [2]), ([2, 2], [2]), ([3, 4, 4, 2], [2, 3, 4]), ([2, 5], [2, 5]), ([6, 5], [6]), ([7], [7]), ([8, 7], [7, 8]), ([7, 9], [7, 9]), ([10, 7], [10]), ([11], [11]), ([12, 11], [11, 12]), ([11, 13], [11, 13]), ([14, 11], [14]), ([15], [15]), ([16, 15], [15, 16]), ([15, 17], [15, 17]), ([18, 15], [18]), ([19, 19], [19]), ([20, 20, 19], [19, 20]), ([19, 21], [19, 21]), ([22, 21], [22]), ([23], [23]), ([24, 23, 23], [23, 24]), ([25, 23], [23, 25]), ([23, 26], [23, 26]), ([27, 25], [27]), ([28], [28]), ([29, 28, 28], [28, 29]), ([30, 28], [28, 30]), ([28, 31], [28, 31]), ([32, 30, 0, 1, 2, 3, 4, 5, 6, 7, 8, 9, 10, 11, 12, 13, 14, 15, 16, 17, 18, 19, 20, 21, 22, 23, 24, 25, 26, 27, 28, 29, 30, 31, 32], [32])])
def shuttlecocklaw08_fixed.B7 : List Nat := [0, 1, 3, 7, 7, 31, 63, 127, 255, 511, 1023, 2047, 4095, 8191, 16383, 32767, 65535, 131071, 262143, 524287, 1048575, 2097151, 4194303, 8388607, 16777215, 33554431, 67108863, 134217727, 268435455, 536870911, 1073741823, 2147483647, 4294967295, 8589934591]
theorem shuttlecocklaw08_fixed.tab7 : rtab .any (opsOf Try.f9 7) = shuttlecocklaw08_fixed.T7 := by kernel_rfl
theorem shuttlecocklaw08_fixed.bits7 : waitsOk shuttlecocklaw08_fixed.T7.2 shuttlecocklaw08_fixed.B7 = true := by kernel_rfl
set_option maxHeartbeats 8000000 in
set_option maxRecDepth 100000 in
theorem shuttlecocklaw08_fixed.calls (k : Nat)  (r : Bool) (w : World) (h : shuttlecocklaw08_fixed.f k  = some r) :
  Calls Try.prog 9 #[] w fun e w' => e = .returned (.bool r) ∧ Below w.heap.size w w' := by
 have hu25 := Try.underlying25
 have HB := Am (Below.refl w.heap.size w)
 have H : ((shuttlecocklaw08_one.f).bind fun bt204 => ((snap_Encode.f k bt204.1 bt204.2.1 bt204.2.2).bind fun t211 => ((snap_Decode.f k t211).bind fun bt212 => (if t211.size + 1 ≤ 9223372036854775807 then ((snap_Decode.f k (t211 ++ (⟨#[120]⟩ : ByteArray))).bind fun bt221 => ((snap_Decode.f k (⟨#[]⟩ : ByteArray)).bind fun bt230 => ((shuttlecocklaw08_one.f).bind fun bt239 => (if 0 < (bt239.2.2.length : Int) then ((some (bt239.2.2.set (0 : Int).toNat (⟨(rd_T36 bt239.2.2 0).f0, (rd_T36 bt239.2.2 0).f1, 2, (rd_T36 bt239.2.2 0).f3⟩ : S36) : List (S36))).bind fun y247 => (if t211.toList = ([5, 1, 1, 2, 1, 1, 2, 1, 3] : List UInt8) then ((shuttlecocklaw08_one.f).bind fun bt248 => ((shuttlecockref08_Same.f k bt212.1 bt212.2.1 bt212.2.2.1 bt248.1 bt248.2.1 bt248.2.2).bind fun t255 => (if t255 = true then (if bt212.2.2.2 = 0 then (if bt221.2.2.2 = 80 then (if bt230.2.2.2 = 10 then ((shuttlecocklaw08_one.f).bind fun bt256 => ((snap_May.f bt256.1 bt256.2.1 bt256.2.2).bind fun t263 => (if t263 = true then ((snap_May.f bt239.1 bt239.2.1 y247).bind fun t264 => (if t264 = true then (none) else ((snap_Encode.f k bt239.1 bt239.2.1 y247).bind fun t265 => (some (t265.toList == ([] : List UInt8)))))) else (none)))) else (none)) else (none)) else (none)) else (none)))) else (none))) else (none))))) else (none))))) = some r := h
 clear h
 replace H := ob H
 obtain ⟨⟨t204, t205, t208⟩, A10, H⟩ := H
 replace H : ((snap_Encode.f k t204 t205 t208).bind fun t211 => ((snap_Decode.f k t211).bind fun bt212 => (if t211.size + 1 ≤ 9223372036854775807 then ((snap_Decode.f k (t211 ++ (⟨#[120]⟩ : ByteArray))).bind fun bt221 => ((snap_Decode.f k (⟨#[]⟩ : ByteArray)).bind fun bt230 => ((shuttlecocklaw08_one.f).bind fun bt239 => (if 0 < (bt239.2.2.length : Int) then ((some (bt239.2.2.set (0 : Int).toNat (⟨(rd_T36 bt239.2.2 0).f0, (rd_T36 bt239.2.2 0).f1, 2, (rd_T36 bt239.2.2 0).f3⟩ : S36) : List (S36))).bind fun y247 => (if t211.toList = ([5, 1, 1, 2, 1, 1, 2, 1, 3] : List UInt8) then ((shuttlecocklaw08_one.f).bind fun bt248 => ((shuttlecockref08_Same.f k bt212.1 bt212.2.1 bt212.2.2.1 bt248.1 bt248.2.1 bt248.2.2).bind fun t255 => (if t255 = true then (if bt212.2.2.2 = 0 then (if bt221.2.2.2 = 80 then (if bt230.2.2.2 = 10 then ((shuttlecocklaw08_one.f).bind fun bt256 => ((snap_May.f bt256.1 bt256.2.1 bt256.2.2).bind fun t263 => (if t263 = true then ((snap_May.f bt239.1 bt239.2.1 y247).bind fun t264 => (if t264 = true then (none) else ((snap_Encode.f k bt239.1 bt239.2.1 y247).bind fun t265 => (some (t265.toList == ([] : List UInt8)))))) else (none)))) else (none)) else (none)) else (none)) else (none)))) else (none))) else (none))))) else (none)))) = some r := H
 have A1 := Am A10
 clear A10
 replace H := ob H
 obtain ⟨t211, A20, H⟩ := H
 replace H : ((snap_Decode.f k t211).bind fun bt212 => (if t211.size + 1 ≤ 9223372036854775807 then ((snap_Decode.f k (t211 ++ (⟨#[120]⟩ : ByteArray))).bind fun bt221 => ((snap_Decode.f k (⟨#[]⟩ : ByteArray)).bind fun bt230 => ((shuttlecocklaw08_one.f).bind fun bt239 => (if 0 < (bt239.2.2.length : Int) then ((some (bt239.2.2.set (0 : Int).toNat (⟨(rd_T36 bt239.2.2 0).f0, (rd_T36 bt239.2.2 0).f1, 2, (rd_T36 bt239.2.2 0).f3⟩ : S36) : List (S36))).bind fun y247 => (if t211.toList = ([5, 1, 1, 2, 1, 1, 2, 1, 3] : List UInt8) then ((shuttlecocklaw08_one.f).bind fun bt248 => ((shuttlecockref08_Same.f k bt212.1 bt212.2.1 bt212.2.2.1 bt248.1 bt248.2.1 bt248.2.2).bind fun t255 => (if t255 = true then (if bt212.2.2.2 = 0 then (if bt221.2.2.2 = 80 then (if bt230.2.2.2 = 10 then ((shuttlecocklaw08_one.f).bind fun bt256 => ((snap_May.f bt256.1 bt256.2.1 bt256.2.2).bind fun t263 => (if t263 = true then ((snap_May.f bt239.1 bt239.2.1 y247).bind fun t264 => (if t264 = true then (none) else ((snap_Encode.f k bt239.1 bt239.2.1 y247).bind fun t265 => (some (t265.toList == ([] : List UInt8)))))) else (none)))) else (none)) else (none)) else (none)) else (none)))) else (none))) else (none))))) else (none))) = some r := H
 have A2 := Am A20
 clear A20
 replace H := ob H
 obtain ⟨⟨t212, t213, t216, t219⟩, A30, H⟩ := H
 replace H : (if t211.size + 1 ≤ 9223372036854775807 then ((snap_Decode.f k (t211 ++ (⟨#[120]⟩ : ByteArray))).bind fun bt221 => ((snap_Decode.f k (⟨#[]⟩ : ByteArray)).bind fun bt230 => ((shuttlecocklaw08_one.f).bind fun bt239 => (if 0 < (bt239.2.2.length : Int) then ((some (bt239.2.2.set (0 : Int).toNat (⟨(rd_T36 bt239.2.2 0).f0, (rd_T36 bt239.2.2 0).f1, 2, (rd_T36 bt239.2.2 0).f3⟩ : S36) : List (S36))).bind fun y247 => (if t211.toList = ([5, 1, 1, 2, 1, 1, 2, 1, 3] : List UInt8) then ((shuttlecocklaw08_one.f).bind fun bt248 => ((shuttlecockref08_Same.f k t212 t213 t216 bt248.1 bt248.2.1 bt248.2.2).bind fun t255 => (if t255 = true then (if t219 = 0 then (if bt221.2.2.2 = 80 then (if bt230.2.2.2 = 10 then ((shuttlecocklaw08_one.f).bind fun bt256 => ((snap_May.f bt256.1 bt256.2.1 bt256.2.2).bind fun t263 => (if t263 = true then ((snap_May.f bt239.1 bt239.2.1 y247).bind fun t264 => (if t264 = true then (none) else ((snap_Encode.f k bt239.1 bt239.2.1 y247).bind fun t265 => (some (t265.toList == ([] : List UInt8)))))) else (none)))) else (none)) else (none)) else (none)) else (none)))) else (none))) else (none))))) else (none)) = some r := H
 have A3 := Am A30
 clear A30
 by_cases c4 : t211.size + 1 ≤ 9223372036854775807
 ·
  rw [if_pos c4] at H
  have c4b0 := eq_true c4
  have c4b1 : decide (t211.size + 1 ≤ 9223372036854775807) = true := decide_eq_true c4
  try have c4b2 : (9223372036854775807 < t211.size + 1) = False := eq_false (Nat.not_lt.2 c4)
  replace H := ob H
  obtain ⟨⟨t221, t222, t225, t228⟩, A50, H⟩ := H
  replace H : ((snap_Decode.f k (⟨#[]⟩ : ByteArray)).bind fun bt230 => ((shuttlecocklaw08_one.f).bind fun bt239 => (if 0 < (bt239.2.2.length : Int) then ((some (bt239.2.2.set (0 : Int).toNat (⟨(rd_T36 bt239.2.2 0).f0, (rd_T36 bt239.2.2 0).f1, 2, (rd_T36 bt239.2.2 0).f3⟩ : S36) : List (S36))).bind fun y247 => (if t211.toList = ([5, 1, 1, 2, 1, 1, 2, 1, 3] : List UInt8) then ((shuttlecocklaw08_one.f).bind fun bt248 => ((shuttlecockref08_Same.f k t212 t213 t216 bt248.1 bt248.2.1 bt248.2.2).bind fun t255 => (if t255 = true then (if t219 = 0 then (if t228 = 80 then (if bt230.2.2.2 = 10 then ((shuttlecocklaw08_one.f).bind fun bt256 => ((snap_May.f bt256.1 bt256.2.1 bt256.2.2).bind fun t263 => (if t263 = true then ((snap_May.f bt239.1 bt239.2.1 y247).bind fun t264 => (if t264 = true then (none) else ((snap_Encode.f k bt239.1 bt239.2.1 y247).bind fun t265 => (some (t265.toList == ([] : List UInt8)))))) else (none)))) else (none)) else (none)) else (none)) else (none)))) else (none))) else (none)))) = some r := H
  have A5 := Am A50
  clear A50
  replace H := ob H
  obtain ⟨⟨t230, t231, t234, t237⟩, A60, H⟩ := H
  replace H : ((shuttlecocklaw08_one.f).bind fun bt239 => (if 0 < (bt239.2.2.length : Int) then ((some (bt239.2.2.set (0 : Int).toNat (⟨(rd_T36 bt239.2.2 0).f0, (rd_T36 bt239.2.2 0).f1, 2, (rd_T36 bt239.2.2 0).f3⟩ : S36) : List (S36))).bind fun y247 => (if t211.toList = ([5, 1, 1, 2, 1, 1, 2, 1, 3] : List UInt8) then ((shuttlecocklaw08_one.f).bind fun bt248 => ((shuttlecockref08_Same.f k t212 t213 t216 bt248.1 bt248.2.1 bt248.2.2).bind fun t255 => (if t255 = true then (if t219 = 0 then (if t228 = 80 then (if t237 = 10 then ((shuttlecocklaw08_one.f).bind fun bt256 => ((snap_May.f bt256.1 bt256.2.1 bt256.2.2).bind fun t263 => (if t263 = true then ((snap_May.f bt239.1 bt239.2.1 y247).bind fun t264 => (if t264 = true then (none) else ((snap_Encode.f k bt239.1 bt239.2.1 y247).bind fun t265 => (some (t265.toList == ([] : List UInt8)))))) else (none)))) else (none)) else (none)) else (none)) else (none)))) else (none))) else (none))) = some r := H
  have A6 := Am A60
  clear A60
  replace H := ob H
  obtain ⟨⟨t239, t240, t243⟩, A70, H⟩ := H
  replace H : (if 0 < (t243.length : Int) then ((some (t243.set (0 : Int).toNat (⟨(rd_T36 t243 0).f0, (rd_T36 t243 0).f1, 2, (rd_T36 t243 0).f3⟩ : S36) : List (S36))).bind fun y247 => (if t211.toList = ([5, 1, 1, 2, 1, 1, 2, 1, 3] : List UInt8) then ((shuttlecocklaw08_one.f).bind fun bt248 => ((shuttlecockref08_Same.f k t212 t213 t216 bt248.1 bt248.2.1 bt248.2.2).bind fun t255 => (if t255 = true then (if t219 = 0 then (if t228 = 80 then (if t237 = 10 then ((shuttlecocklaw08_one.f).bind fun bt256 => ((snap_May.f bt256.1 bt256.2.1 bt256.2.2).bind fun t263 => (if t263 = true then ((snap_May.f t239 t240 y247).bind fun t264 => (if t264 = true then (none) else ((snap_Encode.f k t239 t240 y247).bind fun t265 => (some (t265.toList == ([] : List UInt8)))))) else (none)))) else (none)) else (none)) else (none)) else (none)))) else (none))) else (none)) = some r := H
  have A7 := Am A70
  clear A70
  by_cases c8 : 0 < (t243.length : Int)
  ·
   rw [if_pos c8] at H
   have c8b0 : decide (0 < (t243.length : Int)) = true := decide_eq_true c8
   have c8b1 : decide (0 < t243.length) = true := decide_eq_true (by omega)
   clear c8
   obtain ⟨y247, hy247⟩ : ∃ y_ : List (S36), y_ = (t243.set (0 : Int).toNat (⟨(rd_T36 t243 0).f0, (rd_T36 t243 0).f1, 2, (rd_T36 t243 0).f3⟩ : S36)) := ⟨_, rfl⟩
   replace H : (if t211.toList = ([5, 1, 1, 2, 1, 1, 2, 1, 3] : List UInt8) then ((shuttlecocklaw08_one.f).bind fun bt248 => ((shuttlecockref08_Same.f k t212 t213 t216 bt248.1 bt248.2.1 bt248.2.2).bind fun t255 => (if t255 = true then (if t219 = 0 then (if t228 = 80 then (if t237 = 10 then ((shuttlecocklaw08_one.f).bind fun bt256 => ((snap_May.f bt256.1 bt256.2.1 bt256.2.2).bind fun t263 => (if t263 = true then ((snap_May.f t239 t240 y247).bind fun t264 => (if t264 = true then (none) else ((snap_Encode.f k t239 t240 y247).bind fun t265 => (some (t265.toList == ([] : List UInt8)))))) else (none)))) else (none)) else (none)) else (none)) else (none)))) else (none)) = some r := by first | (rw [hy247]; with_reducible exact H) | (have H2_ := (Option.bind_some _ _).symm.trans H; rw [hy247]; with_reducible exact H2_) | (have H2_ := (Option.bind_some _ _).symm.trans H; with_reducible exact H2_) | with_reducible exact H | (rw [hy247]; exact H) | exact H
   have Ny247 := Am hy247
   clear hy247
   by_cases c10 : t211.toList = ([5, 1, 1, 2, 1, 1, 2, 1, 3] : List UInt8)
   ·
    rw [if_pos c10] at H
    have c10b0 : (t211.toList == ([5, 1, 1, 2, 1, 1, 2, 1, 3] : List UInt8)) = true := beq_iff_eq.mpr c10
    have c10b1 : (t211.toList != ([5, 1, 1, 2, 1, 1, 2, 1, 3] : List UInt8)) = false := bne_eq_false_iff_eq.mpr c10
    clear c10
    replace H := ob H
    obtain ⟨⟨t248, t249, t252⟩, A110, H⟩ := H
    replace H : ((shuttlecockref08_Same.f k t212 t213 t216 t248 t249 t252).bind fun t255 => (if t255 = true then (if t219 = 0 then (if t228 = 80 then (if t237 = 10 then ((shuttlecocklaw08_one.f).bind fun bt256 => ((snap_May.f bt256.1 bt256.2.1 bt256.2.2).bind fun t263 => (if t263 = true then ((snap_May.f t239 t240 y247).bind fun t264 => (if t264 = true then (none) else ((snap_Encode.f k t239 t240 y247).bind fun t265 => (some (t265.toList == ([] : List UInt8)))))) else (none)))) else (none)) else (none)) else (none)) else (none))) = some r := H
    have A11 := Am A110
    clear A110
    replace H := ob H
    obtain ⟨t255, A120, H⟩ := H
    replace H : (if t255 = true then (if t219 = 0 then (if t228 = 80 then (if t237 = 10 then ((shuttlecocklaw08_one.f).bind fun bt256 => ((snap_May.f bt256.1 bt256.2.1 bt256.2.2).bind fun t263 => (if t263 = true then ((snap_May.f t239 t240 y247).bind fun t264 => (if t264 = true then (none) else ((snap_Encode.f k t239 t240 y247).bind fun t265 => (some (t265.toList == ([] : List UInt8)))))) else (none)))) else (none)) else (none)) else (none)) else (none)) = some r := H
    have A12 := Am A120
    clear A120
    by_cases c13 : t255 = true
    ·
     subst c13
     have H1 : (if t219 = 0 then (if t228 = 80 then (if t237 = 10 then ((shuttlecocklaw08_one.f).bind fun bt256 => ((snap_May.f bt256.1 bt256.2.1 bt256.2.2).bind fun t263 => (if t263 = true then ((snap_May.f t239 t240 y247).bind fun t264 => (if t264 = true then (none) else ((snap_Encode.f k t239 t240 y247).bind fun t265 => (some (t265.toList == ([] : List UInt8)))))) else (none)))) else (none)) else (none)) else (none)) = some r := by rw [if_pos rfl] at H; exact H
     clear H
     have H := H1
     clear H1
     by_cases c14 : t219 = 0
     ·
      rw [if_pos c14] at H
      have c14b0 : (t219 == 0) = true := beq_iff_eq.mpr c14
      have c14b1 : (t219 != 0) = false := bne_eq_false_iff_eq.mpr c14
      clear c14
      by_cases c15 : t228 = 80
      ·
       rw [if_pos c15] at H
       have c15b0 : (t228 == 80) = true := beq_iff_eq.mpr c15
       have c15b1 : (t228 != 80) = false := bne_eq_false_iff_eq.mpr c15
       clear c15
       by_cases c16 : t237 = 10
       ·
        rw [if_pos c16] at H
        have c16b0 : (t237 == 10) = true := beq_iff_eq.mpr c16
        have c16b1 : (t237 != 10) = false := bne_eq_false_iff_eq.mpr c16
        clear c16
        replace H := ob H
        obtain ⟨⟨t256, t257, t260⟩, A170, H⟩ := H
        replace H : ((snap_May.f t256 t257 t260).bind fun t263 => (if t263 = true then ((snap_May.f t239 t240 y247).bind fun t264 => (if t264 = true then (none) else ((snap_Encode.f k t239 t240 y247).bind fun t265 => (some (t265.toList == ([] : List UInt8)))))) else (none))) = some r := H
        have A17 := Am A170
        clear A170
        replace H := ob H
        obtain ⟨t263, A180, H⟩ := H
        replace H : (if t263 = true then ((snap_May.f t239 t240 y247).bind fun t264 => (if t264 = true then (none) else ((snap_Encode.f k t239 t240 y247).bind fun t265 => (some (t265.toList == ([] : List UInt8)))))) else (none)) = some r := H
        have A18 := Am A180
        clear A180
        by_cases c19 : t263 = true
        ·
         subst c19
         have H1 : ((snap_May.f t239 t240 y247).bind fun t264 => (if t264 = true then (none) else ((snap_Encode.f k t239 t240 y247).bind fun t265 => (some (t265.toList == ([] : List UInt8)))))) = some r := by rw [if_pos rfl] at H; exact H
         clear H
         have H := H1
         clear H1
         replace H := ob H
         obtain ⟨t264, A200, H⟩ := H
         replace H : (if t264 = true then (none) else ((snap_Encode.f k t239 t240 y247).bind fun t265 => (some (t265.toList == ([] : List UInt8))))) = some r := H
         have A20 := Am A200
         clear A200
         by_cases c21 : t264 = true
         ·
          subst c21
          have H1 : (none) = some r := by rw [if_pos rfl] at H; exact H
          clear H
          have H := H1
          clear H1
          exact absurd H (by simp)
         ·
          replace c21 := Bool.eq_false_iff.mpr c21
          subst c21
          have H1 : ((snap_Encode.f k t239 t240 y247).bind fun t265 => (some (t265.toList == ([] : List UInt8)))) = some r := by rw [if_neg (show ¬ (false = true) by decide)] at H; exact H
          clear H
          have H := H1
          clear H1
          replace H := ob H
          obtain ⟨t265, A220, H⟩ := H
          replace H : (some (t265.toList == ([] : List UInt8))) = some r := H
          have A22 := Am A220
          clear A220
          obtain rfl := Option.some.inj H
          go_enter Try.func9, Try.ntmps9
          try go_wp2_with (first | ((with_reducible refine gate_callee (f := 18) rfl ?_); refine goesL_ (some 9) rfl rfl Try.func18 (by kernel_rfl) rfl #[] rfl (by (try simp only [List.map_toArray, List.map_cons, List.map_nil]); first | done | rfl | (simp only [List.length_drop, List.length_take]; rfl)) ?_; (with_reducible refine (shuttlecocklaw08_one.calls  t204 t205 t208 _ A1.out).mono ?_); rintro e w23 ⟨v206, v209, rfl, ho0, ho1, hb⟩; refine ⟨_, rfl, ?_⟩; have n0_ := Am (Kd.R_lower ho0 (below_size (by repeat (first | (with_reducible first | exact HB.out | apply bl | apply pN | apply b1) | exact HB.out | exact HBo.out)))); have n1_ := Am (Kd.R_lower ho1 (below_size (by repeat (first | (with_reducible first | exact HB.out | apply bl | apply pN | apply b1) | exact HB.out | exact HBo.out)))); have n2_ := Am (below_step (by repeat (first | (with_reducible first | exact HB.out | apply bl | apply pN | apply b1) | exact HB.out | exact HBo.out)) hb); clear HB; have HO207 := n0_; have HO210 := n1_; have HB := n2_; clear n0_ n1_ n2_; (try clear hb); (try clear hb2); (try clear hk); (try clear hi); (try clear ho0); (try clear ho1); obtain ⟨Ao24, co24, eo24⟩ := Kd.R_slice HO207.out; subst eo24; obtain ⟨Ao25, co25, eo25⟩ := Kd.R_slice HO210.out; subst eo25) | ((with_reducible refine gate_callee (f := 14) rfl ?_); refine goesL_ (some 10) rfl rfl Try.func14 (by kernel_rfl) rfl #[.agg #[.int .i64 t204, .slice Ao24 t205.length co24, .slice Ao25 t208.length co25]] rfl (by (try simp only [List.map_toArray, List.map_cons, List.map_nil]); first | done | rfl | (simp only [List.length_drop, List.length_take]; rfl)) ?_; (with_reducible refine (snap_Encode.calls k t204 _ _ t205 _ _ t208 t211 _ ?side1 ?side2 ?side3 ?side4 A2.out).mono ?_); (case side1 => repeat (first | exact (Kd.R_reads' HO207.out).2.2 | (with_reducible refine Kd.C_alloc ?_ _) | (with_reducible refine Kd.C_drewN ?_ _) | (with_reducible refine Kd.C_drew ?_))); (case side2 => exact (Kd.R_reads' HO207.out).2.1); (case side3 => repeat (first | exact (Kd.R_reads' HO210.out).2.2 | (with_reducible refine Kd.C_alloc ?_ _) | (with_reducible refine Kd.C_drewN ?_ _) | (with_reducible refine Kd.C_drew ?_))); (case side4 => exact (Kd.R_reads' HO210.out).2.1); rintro e w26 ⟨rfl, hb⟩; refine ⟨_, rfl, ?_⟩; have n0_ := Am (Kd.R_below (by (with_reducible repeat (first | apply Kd.R_alloc | apply Kd.R_drewN | apply Kd.R_drew)); exact HO207.out) hb); have n1_ := Am (Kd.R_below (by (with_reducible repeat (first | apply Kd.R_alloc | apply Kd.R_drewN | apply Kd.R_drew)); exact HO210.out) hb); have n2_ := Am (below_step (by repeat (first | (with_reducible first | exact HB.out | apply bl | apply pN | apply b1) | exact HB.out | exact HBo.out)) hb); clear HO207; clear HO210; clear HB; have HO207 := n0_; have HO210 := n1_; have HB := n2_; clear n0_ n1_ n2_; (try clear hb); (try clear hb2); (try clear hk); (try clear hi)) | ((with_reducible refine gate_callee (f := 10) rfl ?_); refine goesL_ (some 13) rfl rfl Try.func10 (by kernel_rfl) rfl #[.string t211] rfl (by (try simp only [List.map_toArray, List.map_cons, List.map_nil]); first | done | rfl | (simp only [List.length_drop, List.length_take]; rfl)) ?_; (with_reducible refine (snap_Decode.calls k t211 t212 t213 t216 t219 _ A3.out).mono ?_); rintro e w27 ⟨v214, v217, rfl, ho0, ho1, hb⟩; refine ⟨_, rfl, ?_⟩; have n0_ := Am (Kd.R_elder' (by (with_reducible repeat (first | apply Kd.R_alloc | apply Kd.R_drewN | apply Kd.R_drew)); exact HO207.out) (Kd.R_base ho0) hb); have n1_ := Am (Kd.R_elder' (by (with_reducible repeat (first | apply Kd.R_alloc | apply Kd.R_drewN | apply Kd.R_drew)); exact HO210.out) (Kd.R_base ho1) hb); have n2_ := Am (Kd.R_lower (Kd.R_new' ho0 (Kd.R_lt (by (with_reducible repeat (first | apply Kd.R_alloc | apply Kd.R_drewN | apply Kd.R_drew)); exact HO207.out))) (below_size (by repeat (first | (with_reducible first | exact HB.out | apply bl | apply pN | apply b1) | exact HB.out | exact HBo.out)))); have n3_ := Am (Kd.R_lower (Kd.R_new' ho1 (Kd.R_lt (by (with_reducible repeat (first | apply Kd.R_alloc | apply Kd.R_drewN | apply Kd.R_drew)); exact HO210.out))) (below_size (by repeat (first | (with_reducible first | exact HB.out | apply bl | apply pN | apply b1) | exact HB.out | exact HBo.out)))); have n4_ := Am (below_step (by repeat (first | (with_reducible first | exact HB.out | apply bl | apply pN | apply b1) | exact HB.out | exact HBo.out)) hb); clear HO207; clear HO210; clear HB; have HO207 := n0_; have HO210 := n1_; have HO215 := n2_; have HO218 := n3_; have HB := n4_; clear n0_ n1_ n2_ n3_ n4_; (try clear hb); (try clear hb2); (try clear hk); (try clear hi); (try clear ho0); (try clear ho1)) | ((with_reducible refine gate_dst (N := 2) rfl ?_); refine box_event ?hg (N := 2) ?hd (cs := #[.int .i64 0, .slice none 0 0, .slice none 0 0]) (t := 25) ?hr ?_; (case hd => rfl); (case hg => rfl); (case hr => first | (go_simp; done) | (go_simp; rfl)); intro gb220 hg w28 hbox hb; have n0_ := Am (Kd.R_below (by (with_reducible repeat (first | apply Kd.R_alloc | apply Kd.R_drewN | apply Kd.R_drew)); exact HO207.out) hb); have n1_ := Am (Kd.R_below (by (with_reducible repeat (first | apply Kd.R_alloc | apply Kd.R_drewN | apply Kd.R_drew)); exact HO210.out) hb); have n2_ := Am (Kd.R_below (by (with_reducible repeat (first | apply Kd.R_alloc | apply Kd.R_drewN | apply Kd.R_drew)); exact HO215.out) hb); have n3_ := Am (Kd.R_below (by (with_reducible repeat (first | apply Kd.R_alloc | apply Kd.R_drewN | apply Kd.R_drew)); exact HO218.out) hb); have n4_ := Am (below_step (by repeat (first | (with_reducible first | exact HB.out | apply bl | apply pN | apply b1) | exact HB.out | exact HBo.out)) hb); have n5_ := Am (hbox); have n6_ := Am ((by rw [hg]; exact (below_size (by repeat (first | (with_reducible first | exact HB.out | apply bl | apply pN | apply b1) | exact HB.out | exact HBo.out))) : w.heap.size ≤ gb220)); have n7_ := Am ((by rw [hg]; exact (below_size (by repeat (first | (with_reducible first | exact HB.out | apply bl | apply pN | apply b1) | exact HB.out | exact HBo.out))) : w.heap.size ≤ gb220)); clear HO207; clear HO210; clear HO215; clear HO218; clear HB; have HO207 := n0_; have HO210 := n1_; have HO215 := n2_; have HO218 := n3_; have HB := n4_; have BK220 := n5_; have GW220 := n6_; have GE220 := n7_; clear n0_ n1_ n2_ n3_ n4_ n5_ n6_ n7_; clear hb hbox hg; have hcz29_0 : w28.cell? ⟨gb220, 0, none⟩ = some (.int .i64 0) := (bc BK220.out 0).trans rfl; have hcz29_1 : w28.cell? ⟨gb220, 1, none⟩ = some (.slice none 0 0) := (bc BK220.out 1).trans rfl; have hcz29_2 : w28.cell? ⟨gb220, 2, none⟩ = some (.slice none 0 0) := (bc BK220.out 2).trans rfl; have hfz29_0 := bf BK220.out 0; have hfz29_1 := bf BK220.out 1; have hfz29_2 := bf BK220.out 2; obtain ⟨Ao30, co30, eo30⟩ := Kd.R_slice HO215.out; subst eo30; obtain ⟨Ao31, co31, eo31⟩ := Kd.R_slice HO218.out; subst eo31) | ((with_reducible refine gate_callee (f := 10) rfl ?_); refine goesL_ (some 19) rfl rfl Try.func10 (by kernel_rfl) rfl #[.string (t211 ++ (⟨#[120]⟩ : ByteArray))] rfl (by (try simp only [List.map_toArray, List.map_cons, List.map_nil]); first | done | rfl | (simp only [List.length_drop, List.length_take]; rfl)) ?_; (with_reducible refine (snap_Decode.calls k (t211 ++ (⟨#[120]⟩ : ByteArray)) t221 t222 t225 t228 _ A5.out).mono ?_); rintro e w32 ⟨v223, v226, rfl, ho0, ho1, hb⟩; refine ⟨_, rfl, ?_⟩; have n0_ := Am (Kd.R_elder' (by (with_reducible repeat (first | apply Kd.R_alloc | apply Kd.R_drewN | apply Kd.R_drew)); exact (Kd.R_mono (Kd.R_far (p := ⟨gb220, 2, none⟩) (Kd.R_far (p := ⟨gb220, 1, none⟩) (Kd.R_far (p := ⟨gb220, 0, none⟩) (Kd.R_types HO207.out BK220.out (by decide)) (fun _ hk => hk.2) (.int .i64 t212)) (fun _ hk => hk.2) (.slice Ao30 t213.length co30)) (fun _ hk => hk.2) (.slice Ao31 t216.length co31)) (fun _ h_ => h_.1))) (Kd.R_base ho0) hb); have n1_ := Am (Kd.R_elder' (by (with_reducible repeat (first | apply Kd.R_alloc | apply Kd.R_drewN | apply Kd.R_drew)); exact (Kd.R_mono (Kd.R_far (p := ⟨gb220, 2, none⟩) (Kd.R_far (p := ⟨gb220, 1, none⟩) (Kd.R_far (p := ⟨gb220, 0, none⟩) (Kd.R_types HO210.out BK220.out (by decide)) (fun _ hk => hk.2) (.int .i64 t212)) (fun _ hk => hk.2) (.slice Ao30 t213.length co30)) (fun _ hk => hk.2) (.slice Ao31 t216.length co31)) (fun _ h_ => h_.1))) (Kd.R_base ho1) hb); have n2_ := Am (Kd.R_elder' (by (with_reducible repeat (first | apply Kd.R_alloc | apply Kd.R_drewN | apply Kd.R_drew)); exact (Kd.R_mono (Kd.R_far (p := ⟨gb220, 2, none⟩) (Kd.R_far (p := ⟨gb220, 1, none⟩) (Kd.R_far (p := ⟨gb220, 0, none⟩) (Kd.R_types HO215.out BK220.out (by decide)) (fun _ hk => hk.2) (.int .i64 t212)) (fun _ hk => hk.2) (.slice Ao30 t213.length co30)) (fun _ hk => hk.2) (.slice Ao31 t216.length co31)) (fun _ h_ => h_.1))) (Kd.R_base ho0) hb); have n3_ := Am (Kd.R_elder' (by (with_reducible repeat (first | apply Kd.R_alloc | apply Kd.R_drewN | apply Kd.R_drew)); exact (Kd.R_mono (Kd.R_far (p := ⟨gb220, 2, none⟩) (Kd.R_far (p := ⟨gb220, 1, none⟩) (Kd.R_far (p := ⟨gb220, 0, none⟩) (Kd.R_types HO218.out BK220.out (by decide)) (fun _ hk => hk.2) (.int .i64 t212)) (fun _ hk => hk.2) (.slice Ao30 t213.length co30)) (fun _ hk => hk.2) (.slice Ao31 t216.length co31)) (fun _ h_ => h_.1))) (Kd.R_base ho1) hb); have n4_ := Am (Kd.R_lower (Kd.R_new' (Kd.R_new' ho0 (Kd.R_lt (by (with_reducible repeat (first | apply Kd.R_alloc | apply Kd.R_drewN | apply Kd.R_drew)); exact (Kd.R_mono (Kd.R_far (p := ⟨gb220, 2, none⟩) (Kd.R_far (p := ⟨gb220, 1, none⟩) (Kd.R_far (p := ⟨gb220, 0, none⟩) (Kd.R_types HO207.out BK220.out (by decide)) (fun _ hk => hk.2) (.int .i64 t212)) (fun _ hk => hk.2) (.slice Ao30 t213.length co30)) (fun _ hk => hk.2) (.slice Ao31 t216.length co31)) (fun _ h_ => h_.1))))) (Kd.R_lt (by (with_reducible repeat (first | apply Kd.R_alloc | apply Kd.R_drewN | apply Kd.R_drew)); exact (Kd.R_mono (Kd.R_far (p := ⟨gb220, 2, none⟩) (Kd.R_far (p := ⟨gb220, 1, none⟩) (Kd.R_far (p := ⟨gb220, 0, none⟩) (Kd.R_types HO215.out BK220.out (by decide)) (fun _ hk => hk.2) (.int .i64 t212)) (fun _ hk => hk.2) (.slice Ao30 t213.length co30)) (fun _ hk => hk.2) (.slice Ao31 t216.length co31)) (fun _ h_ => h_.1))))) (below_size (by repeat (first | (with_reducible first | exact HB.out | apply bl | apply pN | apply b1 | refine bs ?_ GE220.out) | exact HB.out | exact HBo.out)))); have n5_ := Am (Kd.R_lower (Kd.R_new' (Kd.R_new' ho1 (Kd.R_lt (by (with_reducible repeat (first | apply Kd.R_alloc | apply Kd.R_drewN | apply Kd.R_drew)); exact (Kd.R_mono (Kd.R_far (p := ⟨gb220, 2, none⟩) (Kd.R_far (p := ⟨gb220, 1, none⟩) (Kd.R_far (p := ⟨gb220, 0, none⟩) (Kd.R_types HO210.out BK220.out (by decide)) (fun _ hk => hk.2) (.int .i64 t212)) (fun _ hk => hk.2) (.slice Ao30 t213.length co30)) (fun _ hk => hk.2) (.slice Ao31 t216.length co31)) (fun _ h_ => h_.1))))) (Kd.R_lt (by (with_reducible repeat (first | apply Kd.R_alloc | apply Kd.R_drewN | apply Kd.R_drew)); exact (Kd.R_mono (Kd.R_far (p := ⟨gb220, 2, none⟩) (Kd.R_far (p := ⟨gb220, 1, none⟩) (Kd.R_far (p := ⟨gb220, 0, none⟩) (Kd.R_types HO218.out BK220.out (by decide)) (fun _ hk => hk.2) (.int .i64 t212)) (fun _ hk => hk.2) (.slice Ao30 t213.length co30)) (fun _ hk => hk.2) (.slice Ao31 t216.length co31)) (fun _ h_ => h_.1))))) (below_size (by repeat (first | (with_reducible first | exact HB.out | apply bl | apply pN | apply b1 | refine bs ?_ GE220.out) | exact HB.out | exact HBo.out)))); have n6_ := Am (blk_below (g := gb220) (o := .cells #[.int .i64 t212, .slice Ao30 t213.length co30, .slice Ao31 t216.length co31] 25 (0, 0)) (by (with_reducible repeat (first | refine bn ?_ _ | refine bd ?_ | refine ba ?_ _)); refine blk_put (cs := #[.int .i64 t212, .slice Ao30 t213.length co30, .slice none 0 0]) ?_ 2 _ rfl; (with_reducible repeat (first | refine bn ?_ _ | refine bd ?_ | refine ba ?_ _)); refine blk_put (cs := #[.int .i64 t212, .slice none 0 0, .slice none 0 0]) ?_ 1 _ rfl; (with_reducible repeat (first | refine bn ?_ _ | refine bd ?_ | refine ba ?_ _)); refine blk_put (cs := #[.int .i64 0, .slice none 0 0, .slice none 0 0]) ?_ 0 _ rfl; (with_reducible repeat (first | refine bn ?_ _ | refine bd ?_ | refine ba ?_ _)); exact BK220.out) hb); have n7_ := Am (below_step (by repeat (first | (with_reducible first | exact HB.out | apply bl | apply pN | apply b1 | refine bs ?_ GE220.out) | exact HB.out | exact HBo.out)) hb); clear HO207; clear HO210; clear HO215; clear HO218; clear BK220; clear HB; have HO207 := n0_; have HO210 := n1_; have HO215 := n2_; have HO218 := n3_; have HO224 := n4_; have HO227 := n5_; have BK220 := n6_; have HB := n7_; clear n0_ n1_ n2_ n3_ n4_ n5_ n6_ n7_; (try clear hb); (try clear hb2); (try clear hk); (try clear hi); (try clear ho0); (try clear ho1)) | ((with_reducible refine gate_dst (N := 4) rfl ?_); refine box_event ?hg (N := 4) ?hd (cs := #[.int .i64 0, .slice none 0 0, .slice none 0 0]) (t := 25) ?hr ?_; (case hd => rfl); (case hg => rfl); (case hr => first | (go_simp; done) | (go_simp; rfl)); intro gb229 hg w33 hbox hb; have n0_ := Am (Kd.R_below (by (with_reducible repeat (first | apply Kd.R_alloc | apply Kd.R_drewN | apply Kd.R_drew)); exact HO207.out) hb); have n1_ := Am (Kd.R_below (by (with_reducible repeat (first | apply Kd.R_alloc | apply Kd.R_drewN | apply Kd.R_drew)); exact HO210.out) hb); have n2_ := Am (Kd.R_below (by (with_reducible repeat (first | apply Kd.R_alloc | apply Kd.R_drewN | apply Kd.R_drew)); exact HO215.out) hb); have n3_ := Am (Kd.R_below (by (with_reducible repeat (first | apply Kd.R_alloc | apply Kd.R_drewN | apply Kd.R_drew)); exact HO218.out) hb); have n4_ := Am (Kd.R_below (by (with_reducible repeat (first | apply Kd.R_alloc | apply Kd.R_drewN | apply Kd.R_drew)); exact HO224.out) hb); have n5_ := Am (Kd.R_below (by (with_reducible repeat (first | apply Kd.R_alloc | apply Kd.R_drewN | apply Kd.R_drew)); exact HO227.out) hb); have n6_ := Am (blk_below (g := gb220) (o := .cells #[.int .i64 t212, .slice Ao30 t213.length co30, .slice Ao31 t216.length co31] 25 (0, 0)) (by (with_reducible repeat (first | refine bn ?_ _ | refine bd ?_ | refine ba ?_ _)); exact BK220.out) hb); have n7_ := Am (below_step (by repeat (first | (with_reducible first | exact HB.out | apply bl | apply pN | apply b1 | refine bs ?_ GE220.out) | exact HB.out | exact HBo.out)) hb); have n8_ := Am (hbox); have n9_ := Am ((by rw [hg]; exact (below_size (by repeat (first | (with_reducible first | exact HB.out | apply bl | apply pN | apply b1 | refine bs ?_ GE220.out) | exact HB.out | exact HBo.out))) : w.heap.size ≤ gb229)); have n10_ := Am ((by rw [hg]; exact (below_size (by repeat (first | (with_reducible first | exact HB.out | apply bl | apply pN | apply b1 | refine bs ?_ GE220.out) | exact HB.out | exact HBo.out))) : w.heap.size ≤ gb229)); have n11_ := Am ((by rw [hg]; exact Nat.ne_of_lt (blk_lt (g := gb220) (o := .cells #[.int .i64 t212, .slice Ao30 t213.length co30, .slice Ao31 t216.length co31] 25 (0, 0)) (by (with_reducible repeat (first | refine bn ?_ _ | refine bd ?_ | refine ba ?_ _)); exact BK220.out)) : gb220 ≠ gb229)); have n12_ := Am ((by rw [hg]; exact Nat.ne_of_gt (blk_lt (g := gb220) (o := .cells #[.int .i64 t212, .slice Ao30 t213.length co30, .slice Ao31 t216.length co31] 25 (0, 0)) (by (with_reducible repeat (first | refine bn ?_ _ | refine bd ?_ | refine ba ?_ _)); exact BK220.out)) : gb229 ≠ gb220)); clear HO207; clear HO210; clear HO215; clear HO218; clear HO224; clear HO227; clear BK220; clear HB; have HO207 := n0_; have HO210 := n1_; have HO215 := n2_; have HO218 := n3_; have HO224 := n4_; have HO227 := n5_; have BK220 := n6_; have HB := n7_; have BK229 := n8_; have GW229 := n9_; have GE229 := n10_; have NB220_229 := n11_; have NB229_220 := n12_; clear n0_ n1_ n2_ n3_ n4_ n5_ n6_ n7_ n8_ n9_ n10_ n11_ n12_; clear hb hbox hg; have hnb34 := NB229_220.out; have hnc34 := NB220_229.out; have hcz35_0 : w33.cell? ⟨gb229, 0, none⟩ = some (.int .i64 0) := (bc BK229.out 0).trans rfl; have hcz35_1 : w33.cell? ⟨gb229, 1, none⟩ = some (.slice none 0 0) := (bc BK229.out 1).trans rfl; have hcz35_2 : w33.cell? ⟨gb229, 2, none⟩ = some (.slice none 0 0) := (bc BK229.out 2).trans rfl; have hfz35_0 := bf BK229.out 0; have hfz35_1 := bf BK229.out 1; have hfz35_2 := bf BK229.out 2; obtain ⟨Ao36, co36, eo36⟩ := Kd.R_slice HO224.out; subst eo36; obtain ⟨Ao37, co37, eo37⟩ := Kd.R_slice HO227.out; subst eo37) | ((with_reducible refine gate_callee (f := 10) rfl ?_); refine goesL_ (some 23) rfl rfl Try.func10 (by kernel_rfl) rfl #[.string (⟨#[]⟩ : ByteArray)] rfl (by (try simp only [List.map_toArray, List.map_cons, List.map_nil]); first | done | rfl | (simp only [List.length_drop, List.length_take]; rfl)) ?_; (with_reducible refine (snap_Decode.calls k (⟨#[]⟩ : ByteArray) t230 t231 t234 t237 _ A6.out).mono ?_); rintro e w38 ⟨v232, v235, rfl, ho0, ho1, hb⟩; refine ⟨_, rfl, ?_⟩; have n0_ := Am (Kd.R_elder' (by (with_reducible repeat (first | apply Kd.R_alloc | apply Kd.R_drewN | apply Kd.R_drew)); exact (Kd.R_mono (Kd.R_far (p := ⟨gb229, 2, none⟩) (Kd.R_far (p := ⟨gb229, 1, none⟩) (Kd.R_far (p := ⟨gb229, 0, none⟩) (Kd.R_types HO207.out BK229.out (by decide)) (fun _ hk => hk.2) (.int .i64 t221)) (fun _ hk => hk.2) (.slice Ao36 t222.length co36)) (fun _ hk => hk.2) (.slice Ao37 t225.length co37)) (fun _ h_ => h_.1))) (Kd.R_base ho0) hb); have n1_ := Am (Kd.R_elder' (by (with_reducible repeat (first | apply Kd.R_alloc | apply Kd.R_drewN | apply Kd.R_drew)); exact (Kd.R_mono (Kd.R_far (p := ⟨gb229, 2, none⟩) (Kd.R_far (p := ⟨gb229, 1, none⟩) (Kd.R_far (p := ⟨gb229, 0, none⟩) (Kd.R_types HO210.out BK229.out (by decide)) (fun _ hk => hk.2) (.int .i64 t221)) (fun _ hk => hk.2) (.slice Ao36 t222.length co36)) (fun _ hk => hk.2) (.slice Ao37 t225.length co37)) (fun _ h_ => h_.1))) (Kd.R_base ho1) hb); have n2_ := Am (Kd.R_elder' (by (with_reducible repeat (first | apply Kd.R_alloc | apply Kd.R_drewN | apply Kd.R_drew)); exact (Kd.R_mono (Kd.R_far (p := ⟨gb229, 2, none⟩) (Kd.R_far (p := ⟨gb229, 1, none⟩) (Kd.R_far (p := ⟨gb229, 0, none⟩) (Kd.R_types HO215.out BK229.out (by decide)) (fun _ hk => hk.2) (.int .i64 t221)) (fun _ hk => hk.2) (.slice Ao36 t222.length co36)) (fun _ hk => hk.2) (.slice Ao37 t225.length co37)) (fun _ h_ => h_.1))) (Kd.R_base ho0) hb); have n3_ := Am (Kd.R_elder' (by (with_reducible repeat (first | apply Kd.R_alloc | apply Kd.R_drewN | apply Kd.R_drew)); exact (Kd.R_mono (Kd.R_far (p := ⟨gb229, 2, none⟩) (Kd.R_far (p := ⟨gb229, 1, none⟩) (Kd.R_far (p := ⟨gb229, 0, none⟩) (Kd.R_types HO218.out BK229.out (by decide)) (fun _ hk => hk.2) (.int .i64 t221)) (fun _ hk => hk.2) (.slice Ao36 t222.length co36)) (fun _ hk => hk.2) (.slice Ao37 t225.length co37)) (fun _ h_ => h_.1))) (Kd.R_base ho1) hb); have n4_ := Am (Kd.R_elder' (by (with_reducible repeat (first | apply Kd.R_alloc | apply Kd.R_drewN | apply Kd.R_drew)); exact (Kd.R_mono (Kd.R_far (p := ⟨gb229, 2, none⟩) (Kd.R_far (p := ⟨gb229, 1, none⟩) (Kd.R_far (p := ⟨gb229, 0, none⟩) (Kd.R_types HO224.out BK229.out (by decide)) (fun _ hk => hk.2) (.int .i64 t221)) (fun _ hk => hk.2) (.slice Ao36 t222.length co36)) (fun _ hk => hk.2) (.slice Ao37 t225.length co37)) (fun _ h_ => h_.1))) (Kd.R_base ho0) hb); have n5_ := Am (Kd.R_elder' (by (with_reducible repeat (first | apply Kd.R_alloc | apply Kd.R_drewN | apply Kd.R_drew)); exact (Kd.R_mono (Kd.R_far (p := ⟨gb229, 2, none⟩) (Kd.R_far (p := ⟨gb229, 1, none⟩) (Kd.R_far (p := ⟨gb229, 0, none⟩) (Kd.R_types HO227.out BK229.out (by decide)) (fun _ hk => hk.2) (.int .i64 t221)) (fun _ hk => hk.2) (.slice Ao36 t222.length co36)) (fun _ hk => hk.2) (.slice Ao37 t225.length co37)) (fun _ h_ => h_.1))) (Kd.R_base ho1) hb); have n6_ := Am (Kd.R_lower (Kd.R_new' (Kd.R_new' (Kd.R_new' ho0 (Kd.R_lt (by (with_reducible repeat (first | apply Kd.R_alloc | apply Kd.R_drewN | apply Kd.R_drew)); exact (Kd.R_mono (Kd.R_far (p := ⟨gb229, 2, none⟩) (Kd.R_far (p := ⟨gb229, 1, none⟩) (Kd.R_far (p := ⟨gb229, 0, none⟩) (Kd.R_types HO207.out BK229.out (by decide)) (fun _ hk => hk.2) (.int .i64 t221)) (fun _ hk => hk.2) (.slice Ao36 t222.length co36)) (fun _ hk => hk.2) (.slice Ao37 t225.length co37)) (fun _ h_ => h_.1))))) (Kd.R_lt (by (with_reducible repeat (first | apply Kd.R_alloc | apply Kd.R_drewN | apply Kd.R_drew)); exact (Kd.R_mono (Kd.R_far (p := ⟨gb229, 2, none⟩) (Kd.R_far (p := ⟨gb229, 1, none⟩) (Kd.R_far (p := ⟨gb229, 0, none⟩) (Kd.R_types HO215.out BK229.out (by decide)) (fun _ hk => hk.2) (.int .i64 t221)) (fun _ hk => hk.2) (.slice Ao36 t222.length co36)) (fun _ hk => hk.2) (.slice Ao37 t225.length co37)) (fun _ h_ => h_.1))))) (Kd.R_lt (by (with_reducible repeat (first | apply Kd.R_alloc | apply Kd.R_drewN | apply Kd.R_drew)); exact (Kd.R_mono (Kd.R_far (p := ⟨gb229, 2, none⟩) (Kd.R_far (p := ⟨gb229, 1, none⟩) (Kd.R_far (p := ⟨gb229, 0, none⟩) (Kd.R_types HO224.out BK229.out (by decide)) (fun _ hk => hk.2) (.int .i64 t221)) (fun _ hk => hk.2) (.slice Ao36 t222.length co36)) (fun _ hk => hk.2) (.slice Ao37 t225.length co37)) (fun _ h_ => h_.1))))) (below_size (by repeat (first | (with_reducible first | exact HB.out | apply bl | apply pN | apply b1 | refine bs ?_ GE220.out | refine bs ?_ GE229.out) | exact HB.out | exact HBo.out)))); have n7_ := Am (Kd.R_lower (Kd.R_new' (Kd.R_new' (Kd.R_new' ho1 (Kd.R_lt (by (with_reducible repeat (first | apply Kd.R_alloc | apply Kd.R_drewN | apply Kd.R_drew)); exact (Kd.R_mono (Kd.R_far (p := ⟨gb229, 2, none⟩) (Kd.R_far (p := ⟨gb229, 1, none⟩) (Kd.R_far (p := ⟨gb229, 0, none⟩) (Kd.R_types HO210.out BK229.out (by decide)) (fun _ hk => hk.2) (.int .i64 t221)) (fun _ hk => hk.2) (.slice Ao36 t222.length co36)) (fun _ hk => hk.2) (.slice Ao37 t225.length co37)) (fun _ h_ => h_.1))))) (Kd.R_lt (by (with_reducible repeat (first | apply Kd.R_alloc | apply Kd.R_drewN | apply Kd.R_drew)); exact (Kd.R_mono (Kd.R_far (p := ⟨gb229, 2, none⟩) (Kd.R_far (p := ⟨gb229, 1, none⟩) (Kd.R_far (p := ⟨gb229, 0, none⟩) (Kd.R_types HO218.out BK229.out (by decide)) (fun _ hk => hk.2) (.int .i64 t221)) (fun _ hk => hk.2) (.slice Ao36 t222.length co36)) (fun _ hk => hk.2) (.slice Ao37 t225.length co37)) (fun _ h_ => h_.1))))) (Kd.R_lt (by (with_reducible repeat (first | apply Kd.R_alloc | apply Kd.R_drewN | apply Kd.R_drew)); exact (Kd.R_mono (Kd.R_far (p := ⟨gb229, 2, none⟩) (Kd.R_far (p := ⟨gb229, 1, none⟩) (Kd.R_far (p := ⟨gb229, 0, none⟩) (Kd.R_types HO227.out BK229.out (by decide)) (fun _ hk => hk.2) (.int .i64 t221)) (fun _ hk => hk.2) (.slice Ao36 t222.length co36)) (fun _ hk => hk.2) (.slice Ao37 t225.length co37)) (fun _ h_ => h_.1))))) (below_size (by repeat (first | (with_reducible first | exact HB.out | apply bl | apply pN | apply b1 | refine bs ?_ GE220.out | refine bs ?_ GE229.out) | exact HB.out | exact HBo.out)))); have n8_ := Am (blk_below (g := gb220) (o := .cells #[.int .i64 t212, .slice Ao30 t213.length co30, .slice Ao31 t216.length co31] 25 (0, 0)) (by (with_reducible repeat (first | refine bn ?_ _ | refine bd ?_ | refine ba ?_ _)); refine blk_far ?_ NB220_229.out _; (with_reducible repeat (first | refine bn ?_ _ | refine bd ?_ | refine ba ?_ _)); refine blk_far ?_ NB220_229.out _; (with_reducible repeat (first | refine bn ?_ _ | refine bd ?_ | refine ba ?_ _)); refine blk_far ?_ NB220_229.out _; (with_reducible repeat (first | refine bn ?_ _ | refine bd ?_ | refine ba ?_ _)); exact BK220.out) hb); have n9_ := Am (blk_below (g := gb229) (o := .cells #[.int .i64 t221, .slice Ao36 t222.length co36, .slice Ao37 t225.length co37] 25 (0, 0)) (by (with_reducible repeat (first | refine bn ?_ _ | refine bd ?_ | refine ba ?_ _)); refine blk_put (cs := #[.int .i64 t221, .slice Ao36 t222.length co36, .slice none 0 0]) ?_ 2 _ rfl; (with_reducible repeat (first | refine bn ?_ _ | refine bd ?_ | refine ba ?_ _)); refine blk_put (cs := #[.int .i64 t221, .slice none 0 0, .slice none 0 0]) ?_ 1 _ rfl; (with_reducible repeat (first | refine bn ?_ _ | refine bd ?_ | refine ba ?_ _)); refine blk_put (cs := #[.int .i64 0, .slice none 0 0, .slice none 0 0]) ?_ 0 _ rfl; (with_reducible repeat (first | refine bn ?_ _ | refine bd ?_ | refine ba ?_ _)); exact BK229.out) hb); have n10_ := Am (below_step (by repeat (first | (with_reducible first | exact HB.out | apply bl | apply pN | apply b1 | refine bs ?_ GE220.out | refine bs ?_ GE229.out) | exact HB.out | exact HBo.out)) hb); clear HO207; clear HO210; clear HO215; clear HO218; clear HO224; clear HO227; clear BK220; clear BK229; clear HB; have HO207 := n0_; have HO210 := n1_; have HO215 := n2_; have HO218 := n3_; have HO224 := n4_; have HO227 := n5_; have HO233 := n6_; have HO236 := n7_; have BK220 := n8_; have BK229 := n9_; have HB := n10_; clear n0_ n1_ n2_ n3_ n4_ n5_ n6_ n7_ n8_ n9_ n10_; (try clear hb); (try clear hb2); (try clear hk); (try clear hi); (try clear ho0); (try clear ho1)) | ((with_reducible refine gate_dst (N := 6) rfl ?_); refine box_event ?hg (N := 6) ?hd (cs := #[.int .i64 0, .slice none 0 0, .slice none 0 0]) (t := 25) ?hr ?_; (case hd => rfl); (case hg => rfl); (case hr => first | (go_simp; done) | (go_simp; rfl)); intro gb238 hg w39 hbox hb; have n0_ := Am (Kd.R_below (by (with_reducible repeat (first | apply Kd.R_alloc | apply Kd.R_drewN | apply Kd.R_drew)); exact HO207.out) hb); have n1_ := Am (Kd.R_below (by (with_reducible repeat (first | apply Kd.R_alloc | apply Kd.R_drewN | apply Kd.R_drew)); exact HO210.out) hb); have n2_ := Am (Kd.R_below (by (with_reducible repeat (first | apply Kd.R_alloc | apply Kd.R_drewN | apply Kd.R_drew)); exact HO215.out) hb); have n3_ := Am (Kd.R_below (by (with_reducible repeat (first | apply Kd.R_alloc | apply Kd.R_drewN | apply Kd.R_drew)); exact HO218.out) hb); have n4_ := Am (Kd.R_below (by (with_reducible repeat (first | apply Kd.R_alloc | apply Kd.R_drewN | apply Kd.R_drew)); exact HO224.out) hb); have n5_ := Am (Kd.R_below (by (with_reducible repeat (first | apply Kd.R_alloc | apply Kd.R_drewN | apply Kd.R_drew)); exact HO227.out) hb); have n6_ := Am (Kd.R_below (by (with_reducible repeat (first | apply Kd.R_alloc | apply Kd.R_drewN | apply Kd.R_drew)); exact HO233.out) hb); have n7_ := Am (Kd.R_below (by (with_reducible repeat (first | apply Kd.R_alloc | apply Kd.R_drewN | apply Kd.R_drew)); exact HO236.out) hb); have n8_ := Am (blk_below (g := gb220) (o := .cells #[.int .i64 t212, .slice Ao30 t213.length co30, .slice Ao31 t216.length co31] 25 (0, 0)) (by (with_reducible repeat (first | refine bn ?_ _ | refine bd ?_ | refine ba ?_ _)); exact BK220.out) hb); have n9_ := Am (blk_below (g := gb229) (o := .cells #[.int .i64 t221, .slice Ao36 t222.length co36, .slice Ao37 t225.length co37] 25 (0, 0)) (by (with_reducible repeat (first | refine bn ?_ _ | refine bd ?_ | refine ba ?_ _)); exact BK229.out) hb); have n10_ := Am (below_step (by repeat (first | (with_reducible first | exact HB.out | apply bl | apply pN | apply b1 | refine bs ?_ GE220.out | refine bs ?_ GE229.out) | exact HB.out | exact HBo.out)) hb); have n11_ := Am (hbox); have n12_ := Am ((by rw [hg]; exact (below_size (by repeat (first | (with_reducible first | exact HB.out | apply bl | apply pN | apply b1 | refine bs ?_ GE220.out | refine bs ?_ GE229.out) | exact HB.out | exact HBo.out))) : w.heap.size ≤ gb238)); have n13_ := Am ((by rw [hg]; exact (below_size (by repeat (first | (with_reducible first | exact HB.out | apply bl | apply pN | apply b1 | refine bs ?_ GE220.out | refine bs ?_ GE229.out) | exact HB.out | exact HBo.out))) : w.heap.size ≤ gb238)); have n14_ := Am ((by rw [hg]; exact Nat.ne_of_lt (blk_lt (g := gb220) (o := .cells #[.int .i64 t212, .slice Ao30 t213.length co30, .slice Ao31 t216.length co31] 25 (0, 0)) (by (with_reducible repeat (first | refine bn ?_ _ | refine bd ?_ | refine ba ?_ _)); exact BK220.out)) : gb220 ≠ gb238)); have n15_ := Am ((by rw [hg]; exact Nat.ne_of_gt (blk_lt (g := gb220) (o := .cells #[.int .i64 t212, .slice Ao30 t213.length co30, .slice Ao31 t216.length co31] 25 (0, 0)) (by (with_reducible repeat (first | refine bn ?_ _ | refine bd ?_ | refine ba ?_ _)); exact BK220.out)) : gb238 ≠ gb220)); have n16_ := Am ((by rw [hg]; exact Nat.ne_of_lt (blk_lt (g := gb229) (o := .cells #[.int .i64 t221, .slice Ao36 t222.length co36, .slice Ao37 t225.length co37] 25 (0, 0)) (by (with_reducible repeat (first | refine bn ?_ _ | refine bd ?_ | refine ba ?_ _)); exact BK229.out)) : gb229 ≠ gb238)); have n17_ := Am ((by rw [hg]; exact Nat.ne_of_gt (blk_lt (g := gb229) (o := .cells #[.int .i64 t221, .slice Ao36 t222.length co36, .slice Ao37 t225.length co37] 25 (0, 0)) (by (with_reducible repeat (first | refine bn ?_ _ | refine bd ?_ | refine ba ?_ _)); exact BK229.out)) : gb238 ≠ gb229)); clear HO207; clear HO210; clear HO215; clear HO218; clear HO224; clear HO227; clear HO233; clear HO236; clear BK220; clear BK229; clear HB; have HO207 := n0_; have HO210 := n1_; have HO215 := n2_; have HO218 := n3_; have HO224 := n4_; have HO227 := n5_; have HO233 := n6_; have HO236 := n7_; have BK220 := n8_; have BK229 := n9_; have HB := n10_; have BK238 := n11_; have GW238 := n12_; have GE238 := n13_; have NB220_238 := n14_; have NB238_220 := n15_; have NB229_238 := n16_; have NB238_229 := n17_; clear n0_ n1_ n2_ n3_ n4_ n5_ n6_ n7_ n8_ n9_ n10_ n11_ n12_ n13_ n14_ n15_ n16_ n17_; clear hb hbox hg; have hnb40 := NB238_220.out; have hnc40 := NB220_238.out; have hnb41 := NB238_229.out; have hnc41 := NB229_238.out; have hcz42_0 : w39.cell? ⟨gb238, 0, none⟩ = some (.int .i64 0) := (bc BK238.out 0).trans rfl; have hcz42_1 : w39.cell? ⟨gb238, 1, none⟩ = some (.slice none 0 0) := (bc BK238.out 1).trans rfl; have hcz42_2 : w39.cell? ⟨gb238, 2, none⟩ = some (.slice none 0 0) := (bc BK238.out 2).trans rfl; have hfz42_0 := bf BK238.out 0; have hfz42_1 := bf BK238.out 1; have hfz42_2 := bf BK238.out 2; obtain ⟨Ao43, co43, eo43⟩ := Kd.R_slice HO233.out; subst eo43; obtain ⟨Ao44, co44, eo44⟩ := Kd.R_slice HO236.out; subst eo44) | ((with_reducible refine gate_callee (f := 18) rfl ?_); refine goesL_ (some 26) rfl rfl Try.func18 (by kernel_rfl) rfl #[] rfl (by (try simp only [List.map_toArray, List.map_cons, List.map_nil]); first | done | rfl | (simp only [List.length_drop, List.length_take]; rfl)) ?_; (with_reducible refine (shuttlecocklaw08_one.calls  t239 t240 t243 _ A7.out).mono ?_); rintro e w45 ⟨v241, v244, rfl, ho0, ho1, hb⟩; refine ⟨_, rfl, ?_⟩; have n0_ := Am (Kd.R_elder' (by (with_reducible repeat (first | apply Kd.R_alloc | apply Kd.R_drewN | apply Kd.R_drew)); exact (Kd.R_mono (Kd.R_far (p := ⟨gb238, 2, none⟩) (Kd.R_far (p := ⟨gb238, 1, none⟩) (Kd.R_far (p := ⟨gb238, 0, none⟩) (Kd.R_types HO207.out BK238.out (by decide)) (fun _ hk => hk.2) (.int .i64 t230)) (fun _ hk => hk.2) (.slice Ao43 t231.length co43)) (fun _ hk => hk.2) (.slice Ao44 t234.length co44)) (fun _ h_ => h_.1))) (Kd.R_base ho0) hb); have n1_ := Am (Kd.R_elder' (by (with_reducible repeat (first | apply Kd.R_alloc | apply Kd.R_drewN | apply Kd.R_drew)); exact (Kd.R_mono (Kd.R_far (p := ⟨gb238, 2, none⟩) (Kd.R_far (p := ⟨gb238, 1, none⟩) (Kd.R_far (p := ⟨gb238, 0, none⟩) (Kd.R_types HO210.out BK238.out (by decide)) (fun _ hk => hk.2) (.int .i64 t230)) (fun _ hk => hk.2) (.slice Ao43 t231.length co43)) (fun _ hk => hk.2) (.slice Ao44 t234.length co44)) (fun _ h_ => h_.1))) (Kd.R_base ho1) hb); have n2_ := Am (Kd.R_elder' (by (with_reducible repeat (first | apply Kd.R_alloc | apply Kd.R_drewN | apply Kd.R_drew)); exact (Kd.R_mono (Kd.R_far (p := ⟨gb238, 2, none⟩) (Kd.R_far (p := ⟨gb238, 1, none⟩) (Kd.R_far (p := ⟨gb238, 0, none⟩) (Kd.R_types HO215.out BK238.out (by decide)) (fun _ hk => hk.2) (.int .i64 t230)) (fun _ hk => hk.2) (.slice Ao43 t231.length co43)) (fun _ hk => hk.2) (.slice Ao44 t234.length co44)) (fun _ h_ => h_.1))) (Kd.R_base ho0) hb); have n3_ := Am (Kd.R_elder' (by (with_reducible repeat (first | apply Kd.R_alloc | apply Kd.R_drewN | apply Kd.R_drew)); exact (Kd.R_mono (Kd.R_far (p := ⟨gb238, 2, none⟩) (Kd.R_far (p := ⟨gb238, 1, none⟩) (Kd.R_far (p := ⟨gb238, 0, none⟩) (Kd.R_types HO218.out BK238.out (by decide)) (fun _ hk => hk.2) (.int .i64 t230)) (fun _ hk => hk.2) (.slice Ao43 t231.length co43)) (fun _ hk => hk.2) (.slice Ao44 t234.length co44)) (fun _ h_ => h_.1))) (Kd.R_base ho1) hb); have n4_ := Am (Kd.R_elder' (by (with_reducible repeat (first | apply Kd.R_alloc | apply Kd.R_drewN | apply Kd.R_drew)); exact (Kd.R_mono (Kd.R_far (p := ⟨gb238, 2, none⟩) (Kd.R_far (p := ⟨gb238, 1, none⟩) (Kd.R_far (p := ⟨gb238, 0, none⟩) (Kd.R_types HO224.out BK238.out (by decide)) (fun _ hk => hk.2) (.int .i64 t230)) (fun _ hk => hk.2) (.slice Ao43 t231.length co43)) (fun _ hk => hk.2) (.slice Ao44 t234.length co44)) (fun _ h_ => h_.1))) (Kd.R_base ho0) hb); have n5_ := Am (Kd.R_elder' (by (with_reducible repeat (first | apply Kd.R_alloc | apply Kd.R_drewN | apply Kd.R_drew)); exact (Kd.R_mono (Kd.R_far (p := ⟨gb238, 2, none⟩) (Kd.R_far (p := ⟨gb238, 1, none⟩) (Kd.R_far (p := ⟨gb238, 0, none⟩) (Kd.R_types HO227.out BK238.out (by decide)) (fun _ hk => hk.2) (.int .i64 t230)) (fun _ hk => hk.2) (.slice Ao43 t231.length co43)) (fun _ hk => hk.2) (.slice Ao44 t234.length co44)) (fun _ h_ => h_.1))) (Kd.R_base ho1) hb); have n6_ := Am (Kd.R_elder' (by (with_reducible repeat (first | apply Kd.R_alloc | apply Kd.R_drewN | apply Kd.R_drew)); exact (Kd.R_mono (Kd.R_far (p := ⟨gb238, 2, none⟩) (Kd.R_far (p := ⟨gb238, 1, none⟩) (Kd.R_far (p := ⟨gb238, 0, none⟩) (Kd.R_types HO233.out BK238.out (by decide)) (fun _ hk => hk.2) (.int .i64 t230)) (fun _ hk => hk.2) (.slice Ao43 t231.length co43)) (fun _ hk => hk.2) (.slice Ao44 t234.length co44)) (fun _ h_ => h_.1))) (Kd.R_base ho0) hb); have n7_ := Am (Kd.R_elder' (by (with_reducible repeat (first | apply Kd.R_alloc | apply Kd.R_drewN | apply Kd.R_drew)); exact (Kd.R_mono (Kd.R_far (p := ⟨gb238, 2, none⟩) (Kd.R_far (p := ⟨gb238, 1, none⟩) (Kd.R_far (p := ⟨gb238, 0, none⟩) (Kd.R_types HO236.out BK238.out (by decide)) (fun _ hk => hk.2) (.int .i64 t230)) (fun _ hk => hk.2) (.slice Ao43 t231.length co43)) (fun _ hk => hk.2) (.slice Ao44 t234.length co44)) (fun _ h_ => h_.1))) (Kd.R_base ho1) hb); have n8_ := Am (Kd.R_lower (Kd.R_new' (Kd.R_new' (Kd.R_new' (Kd.R_new' ho0 (Kd.R_lt (by (with_reducible repeat (first | apply Kd.R_alloc | apply Kd.R_drewN | apply Kd.R_drew)); exact (Kd.R_mono (Kd.R_far (p := ⟨gb238, 2, none⟩) (Kd.R_far (p := ⟨gb238, 1, none⟩) (Kd.R_far (p := ⟨gb238, 0, none⟩) (Kd.R_types HO207.out BK238.out (by decide)) (fun _ hk => hk.2) (.int .i64 t230)) (fun _ hk => hk.2) (.slice Ao43 t231.length co43)) (fun _ hk => hk.2) (.slice Ao44 t234.length co44)) (fun _ h_ => h_.1))))) (Kd.R_lt (by (with_reducible repeat (first | apply Kd.R_alloc | apply Kd.R_drewN | apply Kd.R_drew)); exact (Kd.R_mono (Kd.R_far (p := ⟨gb238, 2, none⟩) (Kd.R_far (p := ⟨gb238, 1, none⟩) (Kd.R_far (p := ⟨gb238, 0, none⟩) (Kd.R_types HO215.out BK238.out (by decide)) (fun _ hk => hk.2) (.int .i64 t230)) (fun _ hk => hk.2) (.slice Ao43 t231.length co43)) (fun _ hk => hk.2) (.slice Ao44 t234.length co44)) (fun _ h_ => h_.1))))) (Kd.R_lt (by (with_reducible repeat (first | apply Kd.R_alloc | apply Kd.R_drewN | apply Kd.R_drew)); exact (Kd.R_mono (Kd.R_far (p := ⟨gb238, 2, none⟩) (Kd.R_far (p := ⟨gb238, 1, none⟩) (Kd.R_far (p := ⟨gb238, 0, none⟩) (Kd.R_types HO224.out BK238.out (by decide)) (fun _ hk => hk.2) (.int .i64 t230)) (fun _ hk => hk.2) (.slice Ao43 t231.length co43)) (fun _ hk => hk.2) (.slice Ao44 t234.length co44)) (fun _ h_ => h_.1))))) (Kd.R_lt (by (with_reducible repeat (first | apply Kd.R_alloc | apply Kd.R_drewN | apply Kd.R_drew)); exact (Kd.R_mono (Kd.R_far (p := ⟨gb238, 2, none⟩) (Kd.R_far (p := ⟨gb238, 1, none⟩) (Kd.R_far (p := ⟨gb238, 0, none⟩) (Kd.R_types HO233.out BK238.out (by decide)) (fun _ hk => hk.2) (.int .i64 t230)) (fun _ hk => hk.2) (.slice Ao43 t231.length co43)) (fun _ hk => hk.2) (.slice Ao44 t234.length co44)) (fun _ h_ => h_.1))))) (below_size (by repeat (first | (with_reducible first | exact HB.out | apply bl | apply pN | apply b1 | refine bs ?_ GE220.out | refine bs ?_ GE229.out | refine bs ?_ GE238.out) | exact HB.out | exact HBo.out)))); have n9_ := Am (Kd.R_lower (Kd.R_new' (Kd.R_new' (Kd.R_new' (Kd.R_new' ho1 (Kd.R_lt (by (with_reducible repeat (first | apply Kd.R_alloc | apply Kd.R_drewN | apply Kd.R_drew)); exact (Kd.R_mono (Kd.R_far (p := ⟨gb238, 2, none⟩) (Kd.R_far (p := ⟨gb238, 1, none⟩) (Kd.R_far (p := ⟨gb238, 0, none⟩) (Kd.R_types HO210.out BK238.out (by decide)) (fun _ hk => hk.2) (.int .i64 t230)) (fun _ hk => hk.2) (.slice Ao43 t231.length co43)) (fun _ hk => hk.2) (.slice Ao44 t234.length co44)) (fun _ h_ => h_.1))))) (Kd.R_lt (by (with_reducible repeat (first | apply Kd.R_alloc | apply Kd.R_drewN | apply Kd.R_drew)); exact (Kd.R_mono (Kd.R_far (p := ⟨gb238, 2, none⟩) (Kd.R_far (p := ⟨gb238, 1, none⟩) (Kd.R_far (p := ⟨gb238, 0, none⟩) (Kd.R_types HO218.out BK238.out (by decide)) (fun _ hk => hk.2) (.int .i64 t230)) (fun _ hk => hk.2) (.slice Ao43 t231.length co43)) (fun _ hk => hk.2) (.slice Ao44 t234.length co44)) (fun _ h_ => h_.1))))) (Kd.R_lt (by (with_reducible repeat (first | apply Kd.R_alloc | apply Kd.R_drewN | apply Kd.R_drew)); exact (Kd.R_mono (Kd.R_far (p := ⟨gb238, 2, none⟩) (Kd.R_far (p := ⟨gb238, 1, none⟩) (Kd.R_far (p := ⟨gb238, 0, none⟩) (Kd.R_types HO227.out BK238.out (by decide)) (fun _ hk => hk.2) (.int .i64 t230)) (fun _ hk => hk.2) (.slice Ao43 t231.length co43)) (fun _ hk => hk.2) (.slice Ao44 t234.length co44)) (fun _ h_ => h_.1))))) (Kd.R_lt (by (with_reducible repeat (first | apply Kd.R_alloc | apply Kd.R_drewN | apply Kd.R_drew)); exact (Kd.R_mono (Kd.R_far (p := ⟨gb238, 2, none⟩) (Kd.R_far (p := ⟨gb238, 1, none⟩) (Kd.R_far (p := ⟨gb238, 0, none⟩) (Kd.R_types HO236.out BK238.out (by decide)) (fun _ hk => hk.2) (.int .i64 t230)) (fun _ hk => hk.2) (.slice Ao43 t231.length co43)) (fun _ hk => hk.2) (.slice Ao44 t234.length co44)) (fun _ h_ => h_.1))))) (below_size (by repeat (first | (with_reducible first | exact HB.out | apply bl | apply pN | apply b1 | refine bs ?_ GE220.out | refine bs ?_ GE229.out | refine bs ?_ GE238.out) | exact HB.out | exact HBo.out)))); have n10_ := Am (blk_below (g := gb220) (o := .cells #[.int .i64 t212, .slice Ao30 t213.length co30, .slice Ao31 t216.length co31] 25 (0, 0)) (by (with_reducible repeat (first | refine bn ?_ _ | refine bd ?_ | refine ba ?_ _)); refine blk_far ?_ NB220_238.out _; (with_reducible repeat (first | refine bn ?_ _ | refine bd ?_ | refine ba ?_ _)); refine blk_far ?_ NB220_238.out _; (with_reducible repeat (first | refine bn ?_ _ | refine bd ?_ | refine ba ?_ _)); refine blk_far ?_ NB220_238.out _; (with_reducible repeat (first | refine bn ?_ _ | refine bd ?_ | refine ba ?_ _)); exact BK220.out) hb); have n11_ := Am (blk_below (g := gb229) (o := .cells #[.int .i64 t221, .slice Ao36 t222.length co36, .slice Ao37 t225.length co37] 25 (0, 0)) (by (with_reducible repeat (first | refine bn ?_ _ | refine bd ?_ | refine ba ?_ _)); refine blk_far ?_ NB229_238.out _; (with_reducible repeat (first | refine bn ?_ _ | refine bd ?_ | refine ba ?_ _)); refine blk_far ?_ NB229_238.out _; (with_reducible repeat (first | refine bn ?_ _ | refine bd ?_ | refine ba ?_ _)); refine blk_far ?_ NB229_238.out _; (with_reducible repeat (first | refine bn ?_ _ | refine bd ?_ | refine ba ?_ _)); exact BK229.out) hb); have n12_ := Am (blk_below (g := gb238) (o := .cells #[.int .i64 t230, .slice Ao43 t231.length co43, .slice Ao44 t234.length co44] 25 (0, 0)) (by (with_reducible repeat (first | refine bn ?_ _ | refine bd ?_ | refine ba ?_ _)); refine blk_put (cs := #[.int .i64 t230, .slice Ao43 t231.length co43, .slice none 0 0]) ?_ 2 _ rfl; (with_reducible repeat (first | refine bn ?_ _ | refine bd ?_ | refine ba ?_ _)); refine blk_put (cs := #[.int .i64 t230, .slice none 0 0, .slice none 0 0]) ?_ 1 _ rfl; (with_reducible repeat (first | refine bn ?_ _ | refine bd ?_ | refine ba ?_ _)); refine blk_put (cs := #[.int .i64 0, .slice none 0 0, .slice none 0 0]) ?_ 0 _ rfl; (with_reducible repeat (first | refine bn ?_ _ | refine bd ?_ | refine ba ?_ _)); exact BK238.out) hb); have n13_ := Am (below_step (by repeat (first | (with_reducible first | exact HB.out | apply bl | apply pN | apply b1 | refine bs ?_ GE220.out | refine bs ?_ GE229.out | refine bs ?_ GE238.out) | exact HB.out | exact HBo.out)) hb); clear HO207; clear HO210; clear HO215; clear HO218; clear HO224; clear HO227; clear HO233; clear HO236; clear BK220; clear BK229; clear BK238; clear HB; have HO207 := n0_; have HO210 := n1_; have HO215 := n2_; have HO218 := n3_; have HO224 := n4_; have HO227 := n5_; have HO233 := n6_; have HO236 := n7_; have HO242 := n8_; have HO245 := n9_; have BK220 := n10_; have BK229 := n11_; have BK238 := n12_; have HB := n13_; clear n0_ n1_ n2_ n3_ n4_ n5_ n6_ n7_ n8_ n9_ n10_ n11_ n12_ n13_; (try clear hb); (try clear hb2); (try clear hk); (try clear hi); (try clear ho0); (try clear ho1)) | ((with_reducible refine gate_dst (N := 8) rfl ?_); refine box_event ?hg (N := 8) ?hd (cs := #[.int .i64 0, .slice none 0 0, .slice none 0 0]) (t := 25) ?hr ?_; (case hd => rfl); (case hg => rfl); (case hr => first | (go_simp; done) | (go_simp; rfl)); intro gb246 hg w46 hbox hb; have n0_ := Am (Kd.R_below (by (with_reducible repeat (first | apply Kd.R_alloc | apply Kd.R_drewN | apply Kd.R_drew)); exact HO207.out) hb); have n1_ := Am (Kd.R_below (by (with_reducible repeat (first | apply Kd.R_alloc | apply Kd.R_drewN | apply Kd.R_drew)); exact HO210.out) hb); have n2_ := Am (Kd.R_below (by (with_reducible repeat (first | apply Kd.R_alloc | apply Kd.R_drewN | apply Kd.R_drew)); exact HO215.out) hb); have n3_ := Am (Kd.R_below (by (with_reducible repeat (first | apply Kd.R_alloc | apply Kd.R_drewN | apply Kd.R_drew)); exact HO218.out) hb); have n4_ := Am (Kd.R_below (by (with_reducible repeat (first | apply Kd.R_alloc | apply Kd.R_drewN | apply Kd.R_drew)); exact HO224.out) hb); have n5_ := Am (Kd.R_below (by (with_reducible repeat (first | apply Kd.R_alloc | apply Kd.R_drewN | apply Kd.R_drew)); exact HO227.out) hb); have n6_ := Am (Kd.R_below (by (with_reducible repeat (first | apply Kd.R_alloc | apply Kd.R_drewN | apply Kd.R_drew)); exact HO233.out) hb); have n7_ := Am (Kd.R_below (by (with_reducible repeat (first | apply Kd.R_alloc | apply Kd.R_drewN | apply Kd.R_drew)); exact HO236.out) hb); have n8_ := Am (Kd.R_below (by (with_reducible repeat (first | apply Kd.R_alloc | apply Kd.R_drewN | apply Kd.R_drew)); exact HO242.out) hb); have n9_ := Am (Kd.R_below (by (with_reducible repeat (first | apply Kd.R_alloc | apply Kd.R_drewN | apply Kd.R_drew)); exact HO245.out) hb); have n10_ := Am (blk_below (g := gb220) (o := .cells #[.int .i64 t212, .slice Ao30 t213.length co30, .slice Ao31 t216.length co31] 25 (0, 0)) (by (with_reducible repeat (first | refine bn ?_ _ | refine bd ?_ | refine ba ?_ _)); exact BK220.out) hb); have n11_ := Am (blk_below (g := gb229) (o := .cells #[.int .i64 t221, .slice Ao36 t222.length co36, .slice Ao37 t225.length co37] 25 (0, 0)) (by (with_reducible repeat (first | refine bn ?_ _ | refine bd ?_ | refine ba ?_ _)); exact BK229.out) hb); have n12_ := Am (blk_below (g := gb238) (o := .cells #[.int .i64 t230, .slice Ao43 t231.length co43, .slice Ao44 t234.length co44] 25 (0, 0)) (by (with_reducible repeat (first | refine bn ?_ _ | refine bd ?_ | refine ba ?_ _)); exact BK238.out) hb); have n13_ := Am (below_step (by repeat (first | (with_reducible first | exact HB.out | apply bl | apply pN | apply b1 | refine bs ?_ GE220.out | refine bs ?_ GE229.out | refine bs ?_ GE238.out) | exact HB.out | exact HBo.out)) hb); have n14_ := Am (hbox); have n15_ := Am ((by rw [hg]; exact (below_size (by repeat (first | (with_reducible first | exact HB.out | apply bl | apply pN | apply b1 | refine bs ?_ GE220.out | refine bs ?_ GE229.out | refine bs ?_ GE238.out) | exact HB.out | exact HBo.out))) : w.heap.size ≤ gb246)); have n16_ := Am ((by rw [hg]; exact (below_size (by repeat (first | (with_reducible first | exact HB.out | apply bl | apply pN | apply b1 | refine bs ?_ GE220.out | refine bs ?_ GE229.out | refine bs ?_ GE238.out) | exact HB.out | exact HBo.out))) : w.heap.size ≤ gb246)); have n17_ := Am ((by rw [hg]; exact Nat.ne_of_lt (blk_lt (g := gb220) (o := .cells #[.int .i64 t212, .slice Ao30 t213.length co30, .slice Ao31 t216.length co31] 25 (0, 0)) (by (with_reducible repeat (first | refine bn ?_ _ | refine bd ?_ | refine ba ?_ _)); exact BK220.out)) : gb220 ≠ gb246)); have n18_ := Am ((by rw [hg]; exact Nat.ne_of_gt (blk_lt (g := gb220) (o := .cells #[.int .i64 t212, .slice Ao30 t213.length co30, .slice Ao31 t216.length co31] 25 (0, 0)) (by (with_reducible repeat (first | refine bn ?_ _ | refine bd ?_ | refine ba ?_ _)); exact BK220.out)) : gb246 ≠ gb220)); have n19_ := Am ((by rw [hg]; exact Nat.ne_of_lt (blk_lt (g := gb229) (o := .cells #[.int .i64 t221, .slice Ao36 t222.length co36, .slice Ao37 t225.length co37] 25 (0, 0)) (by (with_reducible repeat (first | refine bn ?_ _ | refine bd ?_ | refine ba ?_ _)); exact BK229.out)) : gb229 ≠ gb246)); have n20_ := Am ((by rw [hg]; exact Nat.ne_of_gt (blk_lt (g := gb229) (o := .cells #[.int .i64 t221, .slice Ao36 t222.length co36, .slice Ao37 t225.length co37] 25 (0, 0)) (by (with_reducible repeat (first | refine bn ?_ _ | refine bd ?_ | refine ba ?_ _)); exact BK229.out)) : gb246 ≠ gb229)); have n21_ := Am ((by rw [hg]; exact Nat.ne_of_lt (blk_lt (g := gb238) (o := .cells #[.int .i64 t230, .slice Ao43 t231.length co43, .slice Ao44 t234.length co44] 25 (0, 0)) (by (with_reducible repeat (first | refine bn ?_ _ | refine bd ?_ | refine ba ?_ _)); exact BK238.out)) : gb238 ≠ gb246)); have n22_ := Am ((by rw [hg]; exact Nat.ne_of_gt (blk_lt (g := gb238) (o := .cells #[.int .i64 t230, .slice Ao43 t231.length co43, .slice Ao44 t234.length co44] 25 (0, 0)) (by (with_reducible repeat (first | refine bn ?_ _ | refine bd ?_ | refine ba ?_ _)); exact BK238.out)) : gb246 ≠ gb238)); clear HO207; clear HO210; clear HO215; clear HO218; clear HO224; clear HO227; clear HO233; clear HO236; clear HO242; clear HO245; clear BK220; clear BK229; clear BK238; clear HB; have HO207 := n0_; have HO210 := n1_; have HO215 := n2_; have HO218 := n3_; have HO224 := n4_; have HO227 := n5_; have HO233 := n6_; have HO236 := n7_; have HO242 := n8_; have HO245 := n9_; have BK220 := n10_; have BK229 := n11_; have BK238 := n12_; have HB := n13_; have BK246 := n14_; have GW246 := n15_; have GE246 := n16_; have NB220_246 := n17_; have NB246_220 := n18_; have NB229_246 := n19_; have NB246_229 := n20_; have NB238_246 := n21_; have NB246_238 := n22_; clear n0_ n1_ n2_ n3_ n4_ n5_ n6_ n7_ n8_ n9_ n10_ n11_ n12_ n13_ n14_ n15_ n16_ n17_ n18_ n19_ n20_ n21_ n22_; clear hb hbox hg; have hnb47 := NB246_220.out; have hnc47 := NB220_246.out; have hnb48 := NB246_229.out; have hnc48 := NB229_246.out; have hnb49 := NB246_238.out; have hnc49 := NB238_246.out; have hcz50_0 : w46.cell? ⟨gb246, 0, none⟩ = some (.int .i64 0) := (bc BK246.out 0).trans rfl; have hcz50_1 : w46.cell? ⟨gb246, 1, none⟩ = some (.slice none 0 0) := (bc BK246.out 1).trans rfl; have hcz50_2 : w46.cell? ⟨gb246, 2, none⟩ = some (.slice none 0 0) := (bc BK246.out 2).trans rfl; have hfz50_0 := bf BK246.out 0; have hfz50_1 := bf BK246.out 1; have hfz50_2 := bf BK246.out 2; obtain ⟨Ao51, co51, eo51⟩ := Kd.R_slice HO242.out; subst eo51; obtain ⟨Ao52, co52, eo52⟩ := Kd.R_slice HO245.out; subst eo52) | ((with_reducible refine gate_store (t := 25) (p := 8) rfl ?_); refine store_event (t := 25) (p := 8) (v := ?vo_w53) (w1 := (((w46.setCell ⟨gb246, 0, none⟩ (.int .i64 t239)).setCell ⟨gb246, 1, none⟩ (.slice Ao51 t240.length co51)).setCell ⟨gb246, 2, none⟩ (.slice Ao52 t243.length co52))) ?hg ?ho ?hn ?hr ?_; (case ho => rfl); (case hg => rfl); (case hn => rfl); (case hr => first | (go_simp; done) | (go_simp; rfl)); intro w53 hw; have n0_ : Aside0 (Kd.R k46 46 w53 w.heap.size (fun k_ => some k_ ≠ (.slice Ao30 t213.length co30 : Value).ownBlock ∧ some k_ ≠ (.slice Ao36 t222.length co36 : Value).ownBlock ∧ some k_ ≠ (.slice Ao43 t231.length co43 : Value).ownBlock ∧ some k_ ≠ (.slice Ao51 t240.length co51 : Value).ownBlock) (.slice Ao24 t205.length co24) t205) := ⟨(by rw [hw]; exact (by (with_reducible repeat (first | apply Kd.R_alloc | apply Kd.R_drewN | apply Kd.R_drew)); exact Kd.R_mono (Kd.R_far (p := ⟨gb246, 2, none⟩) (Kd.R_far (p := ⟨gb246, 1, none⟩) (Kd.R_far (p := ⟨gb246, 0, none⟩) (Kd.R_types HO207.out BK246.out (by decide)) (fun _ hk => hk.2) (.int .i64 t239)) (fun _ hk => hk.2) (.slice Ao51 t240.length co51)) (fun _ hk => hk.2) (.slice Ao52 t243.length co52)) (fun _ hk => ⟨hk.1.1.1.1.2, ⟨hk.1.1.1.2, ⟨hk.1.1.2, hk.1.2⟩⟩⟩)))⟩; have n1_ : Aside0 (Kd.R k36 36 w53 w.heap.size (fun k_ => some k_ ≠ (.slice Ao31 t216.length co31 : Value).ownBlock ∧ some k_ ≠ (.slice Ao37 t225.length co37 : Value).ownBlock ∧ some k_ ≠ (.slice Ao44 t234.length co44 : Value).ownBlock ∧ some k_ ≠ (.slice Ao52 t243.length co52 : Value).ownBlock) (.slice Ao25 t208.length co25) t208) := ⟨(by rw [hw]; exact (by (with_reducible repeat (first | apply Kd.R_alloc | apply Kd.R_drewN | apply Kd.R_drew)); exact Kd.R_mono (Kd.R_far (p := ⟨gb246, 2, none⟩) (Kd.R_far (p := ⟨gb246, 1, none⟩) (Kd.R_far (p := ⟨gb246, 0, none⟩) (Kd.R_types HO210.out BK246.out (by decide)) (fun _ hk => hk.2) (.int .i64 t239)) (fun _ hk => hk.2) (.slice Ao51 t240.length co51)) (fun _ hk => hk.2) (.slice Ao52 t243.length co52)) (fun _ hk => ⟨hk.1.1.1.1.2, ⟨hk.1.1.1.2, ⟨hk.1.1.2, hk.1.2⟩⟩⟩)))⟩; have n2_ : Aside0 (Kd.R k46 46 w53 w.heap.size (fun k_ => some k_ ≠ (.slice Ao24 t205.length co24 : Value).ownBlock ∧ some k_ ≠ (.slice Ao36 t222.length co36 : Value).ownBlock ∧ some k_ ≠ (.slice Ao43 t231.length co43 : Value).ownBlock ∧ some k_ ≠ (.slice Ao51 t240.length co51 : Value).ownBlock) (.slice Ao30 t213.length co30) t213) := ⟨(by rw [hw]; exact (by (with_reducible repeat (first | apply Kd.R_alloc | apply Kd.R_drewN | apply Kd.R_drew)); exact Kd.R_mono (Kd.R_far (p := ⟨gb246, 2, none⟩) (Kd.R_far (p := ⟨gb246, 1, none⟩) (Kd.R_far (p := ⟨gb246, 0, none⟩) (Kd.R_types HO215.out BK246.out (by decide)) (fun _ hk => hk.2) (.int .i64 t239)) (fun _ hk => hk.2) (.slice Ao51 t240.length co51)) (fun _ hk => hk.2) (.slice Ao52 t243.length co52)) (fun _ hk => ⟨hk.1.1.1.1.2, ⟨hk.1.1.1.2, ⟨hk.1.1.2, hk.1.2⟩⟩⟩)))⟩; have n3_ : Aside0 (Kd.R k36 36 w53 w.heap.size (fun k_ => some k_ ≠ (.slice Ao25 t208.length co25 : Value).ownBlock ∧ some k_ ≠ (.slice Ao37 t225.length co37 : Value).ownBlock ∧ some k_ ≠ (.slice Ao44 t234.length co44 : Value).ownBlock ∧ some k_ ≠ (.slice Ao52 t243.length co52 : Value).ownBlock) (.slice Ao31 t216.length co31) t216) := ⟨(by rw [hw]; exact (by (with_reducible repeat (first | apply Kd.R_alloc | apply Kd.R_drewN | apply Kd.R_drew)); exact Kd.R_mono (Kd.R_far (p := ⟨gb246, 2, none⟩) (Kd.R_far (p := ⟨gb246, 1, none⟩) (Kd.R_far (p := ⟨gb246, 0, none⟩) (Kd.R_types HO218.out BK246.out (by decide)) (fun _ hk => hk.2) (.int .i64 t239)) (fun _ hk => hk.2) (.slice Ao51 t240.length co51)) (fun _ hk => hk.2) (.slice Ao52 t243.length co52)) (fun _ hk => ⟨hk.1.1.1.1.2, ⟨hk.1.1.1.2, ⟨hk.1.1.2, hk.1.2⟩⟩⟩)))⟩; have n4_ : Aside0 (Kd.R k46 46 w53 w.heap.size (fun k_ => some k_ ≠ (.slice Ao24 t205.length co24 : Value).ownBlock ∧ some k_ ≠ (.slice Ao30 t213.length co30 : Value).ownBlock ∧ some k_ ≠ (.slice Ao43 t231.length co43 : Value).ownBlock ∧ some k_ ≠ (.slice Ao51 t240.length co51 : Value).ownBlock) (.slice Ao36 t222.length co36) t222) := ⟨(by rw [hw]; exact (by (with_reducible repeat (first | apply Kd.R_alloc | apply Kd.R_drewN | apply Kd.R_drew)); exact Kd.R_mono (Kd.R_far (p := ⟨gb246, 2, none⟩) (Kd.R_far (p := ⟨gb246, 1, none⟩) (Kd.R_far (p := ⟨gb246, 0, none⟩) (Kd.R_types HO224.out BK246.out (by decide)) (fun _ hk => hk.2) (.int .i64 t239)) (fun _ hk => hk.2) (.slice Ao51 t240.length co51)) (fun _ hk => hk.2) (.slice Ao52 t243.length co52)) (fun _ hk => ⟨hk.1.1.1.1.2, ⟨hk.1.1.1.2, ⟨hk.1.1.2, hk.1.2⟩⟩⟩)))⟩; have n5_ : Aside0 (Kd.R k36 36 w53 w.heap.size (fun k_ => some k_ ≠ (.slice Ao25 t208.length co25 : Value).ownBlock ∧ some k_ ≠ (.slice Ao31 t216.length co31 : Value).ownBlock ∧ some k_ ≠ (.slice Ao44 t234.length co44 : Value).ownBlock ∧ some k_ ≠ (.slice Ao52 t243.length co52 : Value).ownBlock) (.slice Ao37 t225.length co37) t225) := ⟨(by rw [hw]; exact (by (with_reducible repeat (first | apply Kd.R_alloc | apply Kd.R_drewN | apply Kd.R_drew)); exact Kd.R_mono (Kd.R_far (p := ⟨gb246, 2, none⟩) (Kd.R_far (p := ⟨gb246, 1, none⟩) (Kd.R_far (p := ⟨gb246, 0, none⟩) (Kd.R_types HO227.out BK246.out (by decide)) (fun _ hk => hk.2) (.int .i64 t239)) (fun _ hk => hk.2) (.slice Ao51 t240.length co51)) (fun _ hk => hk.2) (.slice Ao52 t243.length co52)) (fun _ hk => ⟨hk.1.1.1.1.2, ⟨hk.1.1.1.2, ⟨hk.1.1.2, hk.1.2⟩⟩⟩)))⟩; have n6_ : Aside0 (Kd.R k46 46 w53 w.heap.size (fun k_ => some k_ ≠ (.slice Ao24 t205.length co24 : Value).ownBlock ∧ some k_ ≠ (.slice Ao30 t213.length co30 : Value).ownBlock ∧ some k_ ≠ (.slice Ao36 t222.length co36 : Value).ownBlock ∧ some k_ ≠ (.slice Ao51 t240.length co51 : Value).ownBlock) (.slice Ao43 t231.length co43) t231) := ⟨(by rw [hw]; exact (by (with_reducible repeat (first | apply Kd.R_alloc | apply Kd.R_drewN | apply Kd.R_drew)); exact Kd.R_mono (Kd.R_far (p := ⟨gb246, 2, none⟩) (Kd.R_far (p := ⟨gb246, 1, none⟩) (Kd.R_far (p := ⟨gb246, 0, none⟩) (Kd.R_types HO233.out BK246.out (by decide)) (fun _ hk => hk.2) (.int .i64 t239)) (fun _ hk => hk.2) (.slice Ao51 t240.length co51)) (fun _ hk => hk.2) (.slice Ao52 t243.length co52)) (fun _ hk => ⟨hk.1.1.1.1.2, ⟨hk.1.1.1.2, ⟨hk.1.1.2, hk.1.2⟩⟩⟩)))⟩; have n7_ : Aside0 (Kd.R k36 36 w53 w.heap.size (fun k_ => some k_ ≠ (.slice Ao25 t208.length co25 : Value).ownBlock ∧ some k_ ≠ (.slice Ao31 t216.length co31 : Value).ownBlock ∧ some k_ ≠ (.slice Ao37 t225.length co37 : Value).ownBlock ∧ some k_ ≠ (.slice Ao52 t243.length co52 : Value).ownBlock) (.slice Ao44 t234.length co44) t234) := ⟨(by rw [hw]; exact (by (with_reducible repeat (first | apply Kd.R_alloc | apply Kd.R_drewN | apply Kd.R_drew)); exact Kd.R_mono (Kd.R_far (p := ⟨gb246, 2, none⟩) (Kd.R_far (p := ⟨gb246, 1, none⟩) (Kd.R_far (p := ⟨gb246, 0, none⟩) (Kd.R_types HO236.out BK246.out (by decide)) (fun _ hk => hk.2) (.int .i64 t239)) (fun _ hk => hk.2) (.slice Ao51 t240.length co51)) (fun _ hk => hk.2) (.slice Ao52 t243.length co52)) (fun _ hk => ⟨hk.1.1.1.1.2, ⟨hk.1.1.1.2, ⟨hk.1.1.2, hk.1.2⟩⟩⟩)))⟩; have n8_ : Aside0 (Kd.R k46 46 w53 w.heap.size (fun k_ => some k_ ≠ (.slice Ao24 t205.length co24 : Value).ownBlock ∧ some k_ ≠ (.slice Ao30 t213.length co30 : Value).ownBlock ∧ some k_ ≠ (.slice Ao36 t222.length co36 : Value).ownBlock ∧ some k_ ≠ (.slice Ao43 t231.length co43 : Value).ownBlock) (.slice Ao51 t240.length co51) t240) := ⟨(by rw [hw]; exact (by (with_reducible repeat (first | apply Kd.R_alloc | apply Kd.R_drewN | apply Kd.R_drew)); exact Kd.R_mono (Kd.R_far (p := ⟨gb246, 2, none⟩) (Kd.R_far (p := ⟨gb246, 1, none⟩) (Kd.R_far (p := ⟨gb246, 0, none⟩) (Kd.R_types HO242.out BK246.out (by decide)) (fun _ hk => hk.2) (.int .i64 t239)) (fun _ hk => hk.2) (.slice Ao51 t240.length co51)) (fun _ hk => hk.2) (.slice Ao52 t243.length co52)) (fun _ hk => ⟨hk.1.1.1.1.2, ⟨hk.1.1.1.2, ⟨hk.1.1.2, hk.1.2⟩⟩⟩)))⟩; have n9_ : Aside0 (Kd.R k36 36 w53 w.heap.size (fun k_ => some k_ ≠ (.slice Ao25 t208.length co25 : Value).ownBlock ∧ some k_ ≠ (.slice Ao31 t216.length co31 : Value).ownBlock ∧ some k_ ≠ (.slice Ao37 t225.length co37 : Value).ownBlock ∧ some k_ ≠ (.slice Ao44 t234.length co44 : Value).ownBlock) (.slice Ao52 t243.length co52) t243) := ⟨(by rw [hw]; exact (by (with_reducible repeat (first | apply Kd.R_alloc | apply Kd.R_drewN | apply Kd.R_drew)); exact Kd.R_mono (Kd.R_far (p := ⟨gb246, 2, none⟩) (Kd.R_far (p := ⟨gb246, 1, none⟩) (Kd.R_far (p := ⟨gb246, 0, none⟩) (Kd.R_types HO245.out BK246.out (by decide)) (fun _ hk => hk.2) (.int .i64 t239)) (fun _ hk => hk.2) (.slice Ao51 t240.length co51)) (fun _ hk => hk.2) (.slice Ao52 t243.length co52)) (fun _ hk => ⟨hk.1.1.1.1.2, ⟨hk.1.1.1.2, ⟨hk.1.1.2, hk.1.2⟩⟩⟩)))⟩; have n10_ : Aside0 (w53.heap[gb220]? = some (.cells #[.int .i64 t212, .slice Ao30 t213.length co30, .slice Ao31 t216.length co31] 25 (0, 0))) := ⟨(by rw [hw]; exact (by (with_reducible repeat (first | refine bn ?_ _ | refine bd ?_ | refine ba ?_ _)); refine blk_far ?_ NB220_246.out _; (with_reducible repeat (first | refine bn ?_ _ | refine bd ?_ | refine ba ?_ _)); refine blk_far ?_ NB220_246.out _; (with_reducible repeat (first | refine bn ?_ _ | refine bd ?_ | refine ba ?_ _)); refine blk_far ?_ NB220_246.out _; (with_reducible repeat (first | refine bn ?_ _ | refine bd ?_ | refine ba ?_ _)); exact BK220.out))⟩; have n11_ : Aside0 (w53.heap[gb229]? = some (.cells #[.int .i64 t221, .slice Ao36 t222.length co36, .slice Ao37 t225.length co37] 25 (0, 0))) := ⟨(by rw [hw]; exact (by (with_reducible repeat (first | refine bn ?_ _ | refine bd ?_ | refine ba ?_ _)); refine blk_far ?_ NB229_246.out _; (with_reducible repeat (first | refine bn ?_ _ | refine bd ?_ | refine ba ?_ _)); refine blk_far ?_ NB229_246.out _; (with_reducible repeat (first | refine bn ?_ _ | refine bd ?_ | refine ba ?_ _)); refine blk_far ?_ NB229_246.out _; (with_reducible repeat (first | refine bn ?_ _ | refine bd ?_ | refine ba ?_ _)); exact BK229.out))⟩; have n12_ : Aside0 (w53.heap[gb238]? = some (.cells #[.int .i64 t230, .slice Ao43 t231.length co43, .slice Ao44 t234.length co44] 25 (0, 0))) := ⟨(by rw [hw]; exact (by (with_reducible repeat (first | refine bn ?_ _ | refine bd ?_ | refine ba ?_ _)); refine blk_far ?_ NB238_246.out _; (with_reducible repeat (first | refine bn ?_ _ | refine bd ?_ | refine ba ?_ _)); refine blk_far ?_ NB238_246.out _; (with_reducible repeat (first | refine bn ?_ _ | refine bd ?_ | refine ba ?_ _)); refine blk_far ?_ NB238_246.out _; (with_reducible repeat (first | refine bn ?_ _ | refine bd ?_ | refine ba ?_ _)); exact BK238.out))⟩; have n13_ : Aside0 (w53.heap[gb246]? = some (.cells #[.int .i64 t239, .slice Ao51 t240.length co51, .slice Ao52 t243.length co52] 25 (0, 0))) := ⟨(by rw [hw]; exact (by (with_reducible repeat (first | refine bn ?_ _ | refine bd ?_ | refine ba ?_ _)); refine blk_put (cs := #[.int .i64 t239, .slice Ao51 t240.length co51, .slice none 0 0]) ?_ 2 _ rfl; (with_reducible repeat (first | refine bn ?_ _ | refine bd ?_ | refine ba ?_ _)); refine blk_put (cs := #[.int .i64 t239, .slice none 0 0, .slice none 0 0]) ?_ 1 _ rfl; (with_reducible repeat (first | refine bn ?_ _ | refine bd ?_ | refine ba ?_ _)); refine blk_put (cs := #[.int .i64 0, .slice none 0 0, .slice none 0 0]) ?_ 0 _ rfl; (with_reducible repeat (first | refine bn ?_ _ | refine bd ?_ | refine ba ?_ _)); exact BK246.out))⟩; have n14_ : Aside0 (Below w.heap.size w w53) := ⟨(by rw [hw]; exact (by repeat (first | (with_reducible first | exact HB.out | apply bl | apply pN | apply b1 | refine bs ?_ GE220.out | refine bs ?_ GE229.out | refine bs ?_ GE238.out | refine bs ?_ GE246.out) | exact HB.out | exact HBo.out)))⟩; clear hw; clear HO207; clear HO210; clear HO215; clear HO218; clear HO224; clear HO227; clear HO233; clear HO236; clear HO242; clear HO245; clear BK220; clear BK229; clear BK238; clear BK246; clear HB; have HO207 := n0_; have HO210 := n1_; have HO215 := n2_; have HO218 := n3_; have HO224 := n4_; have HO227 := n5_; have HO233 := n6_; have HO236 := n7_; have HO242 := n8_; have HO245 := n9_; have BK220 := n10_; have BK229 := n11_; have BK238 := n12_; have BK246 := n13_; have HB := n14_; clear n0_ n1_ n2_ n3_ n4_ n5_ n6_ n7_ n8_ n9_ n10_ n11_ n12_ n13_ n14_; have hcz54_0 : w53.cell? ⟨gb246, 0, none⟩ = some (.int .i64 t239) := (bc BK246.out 0).trans rfl; have hcz54_1 : w53.cell? ⟨gb246, 1, none⟩ = some (.slice Ao51 t240.length co51) := (bc BK246.out 1).trans rfl; have hcz54_2 : w53.cell? ⟨gb246, 2, none⟩ = some (.slice Ao52 t243.length co52) := (bc BK246.out 2).trans rfl; have hfz54_0 := bf BK246.out 0; have hfz54_1 := bf BK246.out 1; have hfz54_2 := bf BK246.out 2; have p9 : 0 ≤ (0 : Int) := (by omega); have q9 : (0 : Int) < ((t243.length : Int) : Int) := of_decide_eq_true (by first | (with_reducible assumption) | assumption); have qi9 : (0 < t243.length) = True := eq_true (by omega); obtain ⟨go9, co9, eo9, gb9, gl9, cl9, HG9⟩ := Kd.R_form HO245.out (by omega); (first | cases eo9 | (injection eo9 with ea_ en_ ec_; (first | subst ea_ | (injection ea_ with ea_; subst ea_)); subst ec_; clear en_)); have GB9 := Am gb9; have GG9 := Am HG9; clear gb9 gl9 HG9; obtain ⟨ce9, hcl9, hM9, hcc9, hfr9⟩ := Kd.R_elem HO245.out z36 (0 : Int) p9 q9; obtain rfl := k36_openM hM9; have hx9_0 : w53.cell? ⟨go9, (0 : Int).toNat * 4, none⟩ = some (.int .i64 ((rd_T36 t243 0).f0)) := hcc9 0 _ rfl; have hx9_1 : w53.cell? ⟨go9, (0 : Int).toNat * 4 + 1, none⟩ = some (.int .i64 ((rd_T36 t243 0).f1)) := hcc9 1 _ rfl; have hx9_2 : w53.cell? ⟨go9, (0 : Int).toNat * 4 + 2, none⟩ = some (.int .i64 ((rd_T36 t243 0).f2)) := hcc9 2 _ rfl; have hx9_3 : w53.cell? ⟨go9, (0 : Int).toNat * 4 + 3, none⟩ = some (.int .i64 ((rd_T36 t243 0).f3)) := hcc9 3 _ rfl; have hf9_0 : w53.frozen? ⟨go9, (0 : Int).toNat * 4, none⟩ = false := hfr9 0; have hf9_1 : w53.frozen? ⟨go9, (0 : Int).toNat * 4 + 1, none⟩ = false := hfr9 1; have hf9_2 : w53.frozen? ⟨go9, (0 : Int).toNat * 4 + 2, none⟩ = false := hfr9 2; have hf9_3 : w53.frozen? ⟨go9, (0 : Int).toNat * 4 + 3, none⟩ = false := hfr9 3; clear hcl9 hcc9 hfr9 hM9; (try rw [show ((0 : Int)).toNat = 0 from rfl] at hx9_0); (try simp only [Nat.reduceMul, Nat.zero_mul, Nat.zero_add, Nat.reduceAdd] at hx9_0); (try rw [show ((0 : Int)).toNat = 0 from rfl] at hf9_0); (try simp only [Nat.reduceMul, Nat.zero_mul, Nat.zero_add, Nat.reduceAdd] at hf9_0); (try rw [show ((0 : Int)).toNat = 0 from rfl] at hx9_1); (try simp only [Nat.reduceMul, Nat.zero_mul, Nat.zero_add, Nat.reduceAdd] at hx9_1); (try rw [show ((0 : Int)).toNat = 0 from rfl] at hf9_1); (try simp only [Nat.reduceMul, Nat.zero_mul, Nat.zero_add, Nat.reduceAdd] at hf9_1); (try rw [show ((0 : Int)).toNat = 0 from rfl] at hx9_2); (try simp only [Nat.reduceMul, Nat.zero_mul, Nat.zero_add, Nat.reduceAdd] at hx9_2); (try rw [show ((0 : Int)).toNat = 0 from rfl] at hf9_2); (try simp only [Nat.reduceMul, Nat.zero_mul, Nat.zero_add, Nat.reduceAdd] at hf9_2); (try rw [show ((0 : Int)).toNat = 0 from rfl] at hx9_3); (try simp only [Nat.reduceMul, Nat.zero_mul, Nat.zero_add, Nat.reduceAdd] at hx9_3); (try rw [show ((0 : Int)).toNat = 0 from rfl] at hf9_3); (try simp only [Nat.reduceMul, Nat.zero_mul, Nat.zero_add, Nat.reduceAdd] at hf9_3); replace p9 := eq_true p9; replace q9 := eq_true q9; have HX55 := Am (show Kd.R k36 36 w53 w.heap.size (fun k_ => some k_ ≠ (.slice Ao25 t208.length co25 : Value).ownBlock ∧ some k_ ≠ (.slice Ao31 t216.length co31 : Value).ownBlock ∧ some k_ ≠ (.slice Ao37 t225.length co37 : Value).ownBlock ∧ some k_ ≠ (.slice Ao44 t234.length co44 : Value).ownBlock) (.slice (some ⟨go9, 0, none⟩) t243.length co52) t243 from (by (with_reducible repeat (first | apply Kd.R_alloc | apply Kd.R_drewN | apply Kd.R_drew)); exact HO245.out)); obtain ⟨ce55, hcl55, hM55, hcc55, hfr55⟩ := Kd.R_elem HX55.out z36 (0 : Int) (by omega) (by have h_ : (0 : Int) < ((t243.length : Int) : Int) := of_decide_eq_true (by first | (with_reducible assumption) | assumption); first | exact h_ | (have e_ := (Kd.R_reads' HO245.out).1; omega) | simpa using h_); obtain rfl := k36_openM hM55; have HP55 := Kd.R_seg HX55.out (0 : Int) (by omega) (by have h_ : (0 : Int) < ((t243.length : Int) : Int) := of_decide_eq_true (by first | (with_reducible assumption) | assumption); first | exact h_ | (have e_ := (Kd.R_reads' HO245.out).1; omega) | simpa using h_) (seg := [.int .i64 2]) (j := 2) hcl55 hcc55 (show 3 ≤ 4 from by decide) (x' := (⟨(rd_T36 t243 0).f0, (rd_T36 t243 0).f1, 2, (rd_T36 t243 0).f3⟩ : S36)) (k36_mkM _ _ _ (⟨(rd_T36 t243 0).f0, (rd_T36 t243 0).f1, 2, (rd_T36 t243 0).f3⟩ : S36) ) (fun _ hk => hk); have hx55_2 := hcc55 2 _ rfl; (try simp only [show (k36).sz = 4 from rfl, Nat.mul_one, Nat.add_zero] at hx55_2); (try rw [show ((0 : Int)).toNat = 0 from rfl] at hx55_2); (try simp only [Nat.reduceMul, Nat.zero_mul, Nat.zero_add, Nat.reduceAdd] at hx55_2); have hf55_2 := hfr55 2; (try simp only [show (k36).sz = 4 from rfl, Nat.mul_one, Nat.add_zero] at hf55_2); (try rw [show ((0 : Int)).toNat = 0 from rfl] at hf55_2); (try simp only [Nat.reduceMul, Nat.zero_mul, Nat.zero_add, Nat.reduceAdd] at hf55_2); clear hcl55 hcc55 hfr55 hM55) | ((with_reducible refine gate_store (t := 3) (p := 30) rfl ?_); refine store_event (t := 3) (p := 30) (v := ?vo_w56) (w1 := (w53.setCell ⟨go9, 2, none⟩ (.int .i64 2))) ?hg ?ho ?hn ?hr ?_; (case ho => rfl); (case hg => rfl); (case hn => rfl); (case hr => first | (go_simp; done) | (go_simp; rfl)); intro w56 hw; have hg : w53.grownBy w56 (some go9) := (by rw [hw]; exact HP55.2); have hp_ : Kd.R k36 36 w56 w.heap.size (fun k_ => some k_ ≠ (.slice Ao25 t208.length co25 : Value).ownBlock ∧ some k_ ≠ (.slice Ao31 t216.length co31 : Value).ownBlock ∧ some k_ ≠ (.slice Ao37 t225.length co37 : Value).ownBlock ∧ some k_ ≠ (.slice Ao44 t234.length co44 : Value).ownBlock) (.slice (some ⟨go9, 0, none⟩) t243.length co52) y247 := (by rw [hw, Ny247.out]; exact HP55.1); clear HP55; have n0_ := Am (Kd.R_over' (v := (.slice (some ⟨go9, 0, none⟩) t243.length co52)) (by (with_reducible repeat (first | apply Kd.R_alloc | apply Kd.R_drewN | apply Kd.R_drew)); exact HO207.out) (Kd.R_typed HO245.out) (by decide) hg); have n1_ := Am (Kd.R_after (v := (.slice (some ⟨go9, 0, none⟩) t243.length co52)) (v1 := (.slice (some ⟨go9, 0, none⟩) t243.length co52)) (ok := (fun k_ => some k_ ≠ (.slice Ao31 t216.length co31 : Value).ownBlock ∧ some k_ ≠ (.slice Ao37 t225.length co37 : Value).ownBlock ∧ some k_ ≠ (.slice Ao44 t234.length co44 : Value).ownBlock)) (by (with_reducible repeat (first | apply Kd.R_alloc | apply Kd.R_drewN | apply Kd.R_drew)); exact Kd.R_mono HO210.out (fun _ hk => ⟨⟨hk.1, ⟨hk.2.1, hk.2.2.1⟩⟩, hk.2.2.2⟩)) hg (.inl rfl)); have n2_ := Am (Kd.R_over' (v := (.slice (some ⟨go9, 0, none⟩) t243.length co52)) (by (with_reducible repeat (first | apply Kd.R_alloc | apply Kd.R_drewN | apply Kd.R_drew)); exact HO215.out) (Kd.R_typed HO245.out) (by decide) hg); have n3_ := Am (Kd.R_after (v := (.slice (some ⟨go9, 0, none⟩) t243.length co52)) (v1 := (.slice (some ⟨go9, 0, none⟩) t243.length co52)) (ok := (fun k_ => some k_ ≠ (.slice Ao25 t208.length co25 : Value).ownBlock ∧ some k_ ≠ (.slice Ao37 t225.length co37 : Value).ownBlock ∧ some k_ ≠ (.slice Ao44 t234.length co44 : Value).ownBlock)) (by (with_reducible repeat (first | apply Kd.R_alloc | apply Kd.R_drewN | apply Kd.R_drew)); exact Kd.R_mono HO218.out (fun _ hk => ⟨⟨hk.1, ⟨hk.2.1, hk.2.2.1⟩⟩, hk.2.2.2⟩)) hg (.inl rfl)); have n4_ := Am (blk_grown (g := gb220) (o := .cells #[.int .i64 t212, .slice Ao30 t213.length co30, .slice Ao31 t216.length co31] 25 (0, 0)) (by (with_reducible repeat (first | refine bn ?_ _ | refine bd ?_ | refine ba ?_ _)); exact BK220.out) hg (Kd.R_ne HO245.out BK220.out (by decide))); have n5_ := Am (Kd.R_over' (v := (.slice (some ⟨go9, 0, none⟩) t243.length co52)) (by (with_reducible repeat (first | apply Kd.R_alloc | apply Kd.R_drewN | apply Kd.R_drew)); exact HO224.out) (Kd.R_typed HO245.out) (by decide) hg); have n6_ := Am (Kd.R_after (v := (.slice (some ⟨go9, 0, none⟩) t243.length co52)) (v1 := (.slice (some ⟨go9, 0, none⟩) t243.length co52)) (ok := (fun k_ => some k_ ≠ (.slice Ao25 t208.length co25 : Value).ownBlock ∧ some k_ ≠ (.slice Ao31 t216.length co31 : Value).ownBlock ∧ some k_ ≠ (.slice Ao44 t234.length co44 : Value).ownBlock)) (by (with_reducible repeat (first | apply Kd.R_alloc | apply Kd.R_drewN | apply Kd.R_drew)); exact Kd.R_mono HO227.out (fun _ hk => ⟨⟨hk.1, ⟨hk.2.1, hk.2.2.1⟩⟩, hk.2.2.2⟩)) hg (.inl rfl)); have n7_ := Am (blk_grown (g := gb229) (o := .cells #[.int .i64 t221, .slice Ao36 t222.length co36, .slice Ao37 t225.length co37] 25 (0, 0)) (by (with_reducible repeat (first | refine bn ?_ _ | refine bd ?_ | refine ba ?_ _)); exact BK229.out) hg (Kd.R_ne HO245.out BK229.out (by decide))); have n8_ := Am (Kd.R_over' (v := (.slice (some ⟨go9, 0, none⟩) t243.length co52)) (by (with_reducible repeat (first | apply Kd.R_alloc | apply Kd.R_drewN | apply Kd.R_drew)); exact HO233.out) (Kd.R_typed HO245.out) (by decide) hg); have n9_ := Am (Kd.R_after (v := (.slice (some ⟨go9, 0, none⟩) t243.length co52)) (v1 := (.slice (some ⟨go9, 0, none⟩) t243.length co52)) (ok := (fun k_ => some k_ ≠ (.slice Ao25 t208.length co25 : Value).ownBlock ∧ some k_ ≠ (.slice Ao31 t216.length co31 : Value).ownBlock ∧ some k_ ≠ (.slice Ao37 t225.length co37 : Value).ownBlock)) (by (with_reducible repeat (first | apply Kd.R_alloc | apply Kd.R_drewN | apply Kd.R_drew)); exact Kd.R_mono HO236.out (fun _ hk => ⟨⟨hk.1, ⟨hk.2.1, hk.2.2.1⟩⟩, hk.2.2.2⟩)) hg (.inl rfl)); have n10_ := Am (blk_grown (g := gb238) (o := .cells #[.int .i64 t230, .slice Ao43 t231.length co43, .slice Ao44 t234.length co44] 25 (0, 0)) (by (with_reducible repeat (first | refine bn ?_ _ | refine bd ?_ | refine ba ?_ _)); exact BK238.out) hg (Kd.R_ne HO245.out BK238.out (by decide))); have n11_ := Am (Kd.R_over' (v := (.slice (some ⟨go9, 0, none⟩) t243.length co52)) (by (with_reducible repeat (first | apply Kd.R_alloc | apply Kd.R_drewN | apply Kd.R_drew)); exact HO242.out) (Kd.R_typed HO245.out) (by decide) hg); have n12_ := Am (hp_); have n13_ := Am (blk_grown (g := gb246) (o := .cells #[.int .i64 t239, .slice Ao51 t240.length co51, .slice (some ⟨go9, 0, none⟩) t243.length co52] 25 (0, 0)) (by (with_reducible repeat (first | refine bn ?_ _ | refine bd ?_ | refine ba ?_ _)); exact BK246.out) hg (Kd.R_ne HO245.out BK246.out (by decide))); have n14_ := Am ((by rw [hw]; exact bs (HB.out) GB9.out : Below w.heap.size w w56)); clear HO207; clear HO210; clear HO215; clear HO218; clear BK220; clear HO224; clear HO227; clear BK229; clear HO233; clear HO236; clear BK238; clear HO242; clear HO245; clear BK246; clear HB; have HO207 := n0_; have HO210 := n1_; have HO215 := n2_; have HO218 := n3_; have BK220 := n4_; have HO224 := n5_; have HO227 := n6_; have BK229 := n7_; have HO233 := n8_; have HO236 := n9_; have BK238 := n10_; have HO242 := n11_; have HO245 := n12_; have BK246 := n13_; have HB := n14_; clear n0_ n1_ n2_ n3_ n4_ n5_ n6_ n7_ n8_ n9_ n10_ n11_ n12_ n13_ n14_; clear hg hw hp_))
          have n0_ := Am (Kd.R_drew HO207.out)
          have n1_ := Am (Kd.R_drew HO210.out)
          have n2_ := Am (Kd.R_drew HO215.out)
          have n3_ := Am (Kd.R_drew HO218.out)
          have n4_ := Am (Kd.R_drew HO224.out)
          have n5_ := Am (Kd.R_drew HO227.out)
          have n6_ := Am (Kd.R_drew HO233.out)
          have n7_ := Am (Kd.R_drew HO236.out)
          have n8_ := Am (Kd.R_drew HO242.out)
          have n9_ := Am (Kd.R_drew HO245.out)
          have n10_ := Am (bd BK220.out)
          have n11_ := Am (bd BK229.out)
          have n12_ := Am (bd BK238.out)
          have n13_ := Am (bd BK246.out)
          have n14_ := Am (b1 HB.out)
          clear HO207
          clear HO210
          clear HO215
          clear HO218
          clear HO224
          clear HO227
          clear HO233
          clear HO236
          clear HO242
          clear HO245
          clear BK220
          clear BK229
          clear BK238
          clear BK246
          clear HB
          have HO207 := n0_
          have HO210 := n1_
          have HO215 := n2_
          have HO218 := n3_
          have HO224 := n4_
          have HO227 := n5_
          have HO233 := n6_
          have HO236 := n7_
          have HO242 := n8_
          have HO245 := n9_
          have BK220 := n10_
          have BK229 := n11_
          have BK238 := n12_
          have BK246 := n13_
          have HB := n14_
          clear n0_ n1_ n2_ n3_ n4_ n5_ n6_ n7_ n8_ n9_ n10_ n11_ n12_ n13_ n14_
          refine start_ (n := 34) (S := fun w' => w'.cell? ⟨gb220, 0, none⟩ = some (.int .i64 t212) ∧ w'.cell? ⟨gb220, 1, none⟩ = some (.slice Ao30 t213.length co30) ∧ w'.cell? ⟨gb220, 2, none⟩ = some (.slice Ao31 t216.length co31) ∧ w'.cell? ⟨gb246, 0, none⟩ = some (.int .i64 t239) ∧ w'.cell? ⟨gb246, 1, none⟩ = some (.slice Ao51 t240.length co51) ∧ w'.cell? ⟨gb246, 2, none⟩ = some (.slice (some ⟨go9, 0, none⟩) t243.length co52)) (ds := []) q8_0 (by kernel_rfl) rfl rfl ⟨(bc BK220.out 0).trans rfl, (bc BK220.out 1).trans rfl, (bc BK220.out 2).trans rfl, (bc BK246.out 0).trans rfl, (bc BK246.out 1).trans rfl, (bc BK246.out 2).trans rfl⟩ (fun hHeld => ?_); refine with_tabW shuttlecocklaw08_fixed.tab7 shuttlecocklaw08_fixed.bits7 (fun HT_ HW_ => ?_)
          generalize w56.drew = w57 at HO207 HO210 HO215 HO218 HO224 HO227 HO233 HO236 HO242 HO245 BK220 BK229 BK238 BK246 HB hHeld ⊢
          refine Own.pr_ 0 (some 31) q8_1 HT_ (h := ?_)
          refine Own.pr_ 1 (some 32) q8_2 HT_ (h := ?_)
          refine Own.pr_ 2 (some 33) q8_3 HT_ (h := ?_)
          refine Own.tk_ 3 (some 34) q8_4 HT_ HW_ hHeld (hy := by rintro w' ⟨s0, s1, s2, s3, s4, s5⟩; go_simp; with_reducible rfl) (h := ?_)
          refine one_ (i := 4) (N := some 35) q8_5 rfl rfl (one_of HT_.out (by kernel_rfl)) (by decide) (fun K hK => ?_)
          refine goes_ Try.func18 (by kernel_rfl) rfl #[] (by rfl) rfl rfl (by (try simp only [List.map_toArray, List.map_cons, List.map_nil]); first | done | rfl | (simp only [List.length_drop, List.length_take]; rfl)) ?_
          with_reducible refine (shuttlecocklaw08_one.calls  t248 t249 t252 _ A11.out).mono ?_
          rintro e w58 ⟨v250, v253, rfl, ho0, ho1, hb⟩
          refine ⟨_, rfl, ?_⟩
          have n0_ := Am (Kd.R_elder' (by (with_reducible repeat (first | apply Kd.R_alloc | apply Kd.R_drewN | apply Kd.R_drew)); exact HO207.out) (Kd.R_base ho0) hb)
          have n1_ := Am (Kd.R_elder' (by (with_reducible repeat (first | apply Kd.R_alloc | apply Kd.R_drewN | apply Kd.R_drew)); exact HO210.out) (Kd.R_base ho1) hb)
          have n2_ := Am (Kd.R_elder' (by (with_reducible repeat (first | apply Kd.R_alloc | apply Kd.R_drewN | apply Kd.R_drew)); exact HO215.out) (Kd.R_base ho0) hb)
          have n3_ := Am (Kd.R_elder' (by (with_reducible repeat (first | apply Kd.R_alloc | apply Kd.R_drewN | apply Kd.R_drew)); exact HO218.out) (Kd.R_base ho1) hb)
          have n4_ := Am (Kd.R_elder' (by (with_reducible repeat (first | apply Kd.R_alloc | apply Kd.R_drewN | apply Kd.R_drew)); exact HO224.out) (Kd.R_base ho0) hb)
          have n5_ := Am (Kd.R_elder' (by (with_reducible repeat (first | apply Kd.R_alloc | apply Kd.R_drewN | apply Kd.R_drew)); exact HO227.out) (Kd.R_base ho1) hb)
          have n6_ := Am (Kd.R_elder' (by (with_reducible repeat (first | apply Kd.R_alloc | apply Kd.R_drewN | apply Kd.R_drew)); exact HO233.out) (Kd.R_base ho0) hb)
          have n7_ := Am (Kd.R_elder' (by (with_reducible repeat (first | apply Kd.R_alloc | apply Kd.R_drewN | apply Kd.R_drew)); exact HO236.out) (Kd.R_base ho1) hb)
          have n8_ := Am (Kd.R_elder' (by (with_reducible repeat (first | apply Kd.R_alloc | apply Kd.R_drewN | apply Kd.R_drew)); exact HO242.out) (Kd.R_base ho0) hb)
          have n9_ := Am (Kd.R_elder' (by (with_reducible repeat (first | apply Kd.R_alloc | apply Kd.R_drewN | apply Kd.R_drew)); exact HO245.out) (Kd.R_base ho1) hb)
          have n10_ := Am (Kd.R_lower (Kd.R_new' (Kd.R_new' (Kd.R_new' (Kd.R_new' (Kd.R_new' ho0 (Kd.R_lt (by (with_reducible repeat (first | apply Kd.R_alloc | apply Kd.R_drewN | apply Kd.R_drew)); exact HO207.out))) (Kd.R_lt (by (with_reducible repeat (first | apply Kd.R_alloc | apply Kd.R_drewN | apply Kd.R_drew)); exact HO215.out))) (Kd.R_lt (by (with_reducible repeat (first | apply Kd.R_alloc | apply Kd.R_drewN | apply Kd.R_drew)); exact HO224.out))) (Kd.R_lt (by (with_reducible repeat (first | apply Kd.R_alloc | apply Kd.R_drewN | apply Kd.R_drew)); exact HO233.out))) (Kd.R_lt (by (with_reducible repeat (first | apply Kd.R_alloc | apply Kd.R_drewN | apply Kd.R_drew)); exact HO242.out))) (below_size (by repeat (first | (with_reducible first | exact HB.out | apply bl | apply pN | apply b1 | refine bs ?_ GE220.out | refine bs ?_ GE229.out | refine bs ?_ GE238.out | refine bs ?_ GE246.out) | exact HB.out | exact HBo.out))))
          have n11_ := Am (Kd.R_lower (Kd.R_new' (Kd.R_new' (Kd.R_new' (Kd.R_new' (Kd.R_new' ho1 (Kd.R_lt (by (with_reducible repeat (first | apply Kd.R_alloc | apply Kd.R_drewN | apply Kd.R_drew)); exact HO210.out))) (Kd.R_lt (by (with_reducible repeat (first | apply Kd.R_alloc | apply Kd.R_drewN | apply Kd.R_drew)); exact HO218.out))) (Kd.R_lt (by (with_reducible repeat (first | apply Kd.R_alloc | apply Kd.R_drewN | apply Kd.R_drew)); exact HO227.out))) (Kd.R_lt (by (with_reducible repeat (first | apply Kd.R_alloc | apply Kd.R_drewN | apply Kd.R_drew)); exact HO236.out))) (Kd.R_lt (by (with_reducible repeat (first | apply Kd.R_alloc | apply Kd.R_drewN | apply Kd.R_drew)); exact HO245.out))) (below_size (by repeat (first | (with_reducible first | exact HB.out | apply bl | apply pN | apply b1 | refine bs ?_ GE220.out | refine bs ?_ GE229.out | refine bs ?_ GE238.out | refine bs ?_ GE246.out) | exact HB.out | exact HBo.out))))
          have n12_ := Am (blk_below (g := gb220) (o := .cells #[.int .i64 t212, .slice Ao30 t213.length co30, .slice Ao31 t216.length co31] 25 (0, 0)) (by (with_reducible repeat (first | refine bn ?_ _ | refine bd ?_ | refine ba ?_ _)); exact BK220.out) hb)
          have n13_ := Am (blk_below (g := gb229) (o := .cells #[.int .i64 t221, .slice Ao36 t222.length co36, .slice Ao37 t225.length co37] 25 (0, 0)) (by (with_reducible repeat (first | refine bn ?_ _ | refine bd ?_ | refine ba ?_ _)); exact BK229.out) hb)
          have n14_ := Am (blk_below (g := gb238) (o := .cells #[.int .i64 t230, .slice Ao43 t231.length co43, .slice Ao44 t234.length co44] 25 (0, 0)) (by (with_reducible repeat (first | refine bn ?_ _ | refine bd ?_ | refine ba ?_ _)); exact BK238.out) hb)
          have n15_ := Am (blk_below (g := gb246) (o := .cells #[.int .i64 t239, .slice Ao51 t240.length co51, .slice (some ⟨go9, 0, none⟩) t243.length co52] 25 (0, 0)) (by (with_reducible repeat (first | refine bn ?_ _ | refine bd ?_ | refine ba ?_ _)); exact BK246.out) hb)
          have n16_ := Am (below_step (by repeat (first | (with_reducible first | exact HB.out | apply bl | apply pN | apply b1 | refine bs ?_ GE220.out | refine bs ?_ GE229.out | refine bs ?_ GE238.out | refine bs ?_ GE246.out) | exact HB.out | exact HBo.out)) hb)
          clear HO207
          clear HO210
          clear HO215
          clear HO218
          clear HO224
          clear HO227
          clear HO233
          clear HO236
          clear HO242
          clear HO245
          clear BK220
          clear BK229
          clear BK238
          clear BK246
          clear HB
          have HO207 := n0_
          have HO210 := n1_
          have HO215 := n2_
          have HO218 := n3_
          have HO224 := n4_
          have HO227 := n5_
          have HO233 := n6_
          have HO236 := n7_
          have HO242 := n8_
          have HO245 := n9_
          have HO251 := n10_
          have HO254 := n11_
          have BK220 := n12_
          have BK229 := n13_
          have BK238 := n14_
          have BK246 := n15_
          have HB := n16_
          clear n0_ n1_ n2_ n3_ n4_ n5_ n6_ n7_ n8_ n9_ n10_ n11_ n12_ n13_ n14_ n15_ n16_
          (try clear hb)
          (try clear hb2)
          (try clear hk)
          (try clear hi)
          (try clear ho0)
          (try clear ho1)
          obtain ⟨Ao59, co59, eo59⟩ := Kd.R_slice HO251.out
          (first | subst eo59 | (injection eo59 with f1_ f2_ f3_; have f4_ := f1_.symm; have f5_ := f3_.symm; clear f1_ f2_ f3_; subst f4_; subst f5_))
          obtain ⟨Ao60, co60, eo60⟩ := Kd.R_slice HO254.out
          (first | subst eo60 | (injection eo60 with f1_ f2_ f3_; have f4_ := f1_.symm; have f5_ := f3_.symm; clear f1_ f2_ f3_; subst f4_; subst f5_))
          refine hK.out _ _ ⟨(bc BK220.out 0).trans rfl, (bc BK220.out 1).trans rfl, (bc BK220.out 2).trans rfl, (bc BK246.out 0).trans rfl, (bc BK246.out 1).trans rfl, (bc BK246.out 2).trans rfl⟩ (fun hHeld => ?_)
          clear hK K
          refine norm_ (a' := ?_) ?_ ?_
          rotate_left
          ·
           show Act.put _ (some 35) _ = _
           simp only [Act.put, sI, sZ, sS, i64_w, i32_w]
           rfl
          refine one_ (i := 5) (N := some 36) q8_6 rfl rfl (one_of HT_.out (by kernel_rfl)) (by decide) (fun K hK => ?_)
          refine goes_ Try.func16 (by kernel_rfl) rfl #[.agg #[.int .i64 t212, .slice Ao30 t213.length co30, .slice Ao31 t216.length co31], .agg #[.int .i64 t248, .slice Ao59 t249.length co59, .slice Ao60 t252.length co60]] (by rfl) rfl rfl (by (try simp only [List.map_toArray, List.map_cons, List.map_nil]); first | done | rfl | (simp only [List.length_drop, List.length_take]; rfl)) ?_
          with_reducible refine (shuttlecockref08_Same.calls k t212 _ _ t213 _ _ t216 t248 _ _ t249 _ _ t252 true _ ?side1 ?side2 ?side3 ?side4 ?side5 ?side6 ?side7 ?side8 A12.out).mono ?_
          (case side1 => repeat (first | exact (Kd.R_reads' HO215.out).2.2 | (with_reducible refine Kd.C_alloc ?_ _) | (with_reducible refine Kd.C_drewN ?_ _) | (with_reducible refine Kd.C_drew ?_)))
          (case side2 => exact (Kd.R_reads' HO215.out).2.1)
          (case side3 => repeat (first | exact (Kd.R_reads' HO218.out).2.2 | (with_reducible refine Kd.C_alloc ?_ _) | (with_reducible refine Kd.C_drewN ?_ _) | (with_reducible refine Kd.C_drew ?_)))
          (case side4 => exact (Kd.R_reads' HO218.out).2.1)
          (case side5 => repeat (first | exact (Kd.R_reads' HO251.out).2.2 | (with_reducible refine Kd.C_alloc ?_ _) | (with_reducible refine Kd.C_drewN ?_ _) | (with_reducible refine Kd.C_drew ?_)))
          (case side6 => exact (Kd.R_reads' HO251.out).2.1)
          (case side7 => repeat (first | exact (Kd.R_reads' HO254.out).2.2 | (with_reducible refine Kd.C_alloc ?_ _) | (with_reducible refine Kd.C_drewN ?_ _) | (with_reducible refine Kd.C_drew ?_)))
          (case side8 => exact (Kd.R_reads' HO254.out).2.1)
          rintro e w61 ⟨rfl, hb⟩
          refine ⟨_, rfl, ?_⟩
          have n0_ := Am (Kd.R_below (by (with_reducible repeat (first | apply Kd.R_alloc | apply Kd.R_drewN | apply Kd.R_drew)); exact HO207.out) hb)
          have n1_ := Am (Kd.R_below (by (with_reducible repeat (first | apply Kd.R_alloc | apply Kd.R_drewN | apply Kd.R_drew)); exact HO210.out) hb)
          have n2_ := Am (Kd.R_below (by (with_reducible repeat (first | apply Kd.R_alloc | apply Kd.R_drewN | apply Kd.R_drew)); exact HO215.out) hb)
          have n3_ := Am (Kd.R_below (by (with_reducible repeat (first | apply Kd.R_alloc | apply Kd.R_drewN | apply Kd.R_drew)); exact HO218.out) hb)
          have n4_ := Am (Kd.R_below (by (with_reducible repeat (first | apply Kd.R_alloc | apply Kd.R_drewN | apply Kd.R_drew)); exact HO224.out) hb)
          have n5_ := Am (Kd.R_below (by (with_reducible repeat (first | apply Kd.R_alloc | apply Kd.R_drewN | apply Kd.R_drew)); exact HO227.out) hb)
          have n6_ := Am (Kd.R_below (by (with_reducible repeat (first | apply Kd.R_alloc | apply Kd.R_drewN | apply Kd.R_drew)); exact HO233.out) hb)
          have n7_ := Am (Kd.R_below (by (with_reducible repeat (first | apply Kd.R_alloc | apply Kd.R_drewN | apply Kd.R_drew)); exact HO236.out) hb)
          have n8_ := Am (Kd.R_below (by (with_reducible repeat (first | apply Kd.R_alloc | apply Kd.R_drewN | apply Kd.R_drew)); exact HO242.out) hb)
          have n9_ := Am (Kd.R_below (by (with_reducible repeat (first | apply Kd.R_alloc | apply Kd.R_drewN | apply Kd.R_drew)); exact HO245.out) hb)
          have n10_ := Am (Kd.R_below (by (with_reducible repeat (first | apply Kd.R_alloc | apply Kd.R_drewN | apply Kd.R_drew)); exact HO251.out) hb)
          have n11_ := Am (Kd.R_below (by (with_reducible repeat (first | apply Kd.R_alloc | apply Kd.R_drewN | apply Kd.R_drew)); exact HO254.out) hb)
          have n12_ := Am (blk_below (g := gb220) (o := .cells #[.int .i64 t212, .slice Ao30 t213.length co30, .slice Ao31 t216.length co31] 25 (0, 0)) (by (with_reducible repeat (first | refine bn ?_ _ | refine bd ?_ | refine ba ?_ _)); exact BK220.out) hb)
          have n13_ := Am (blk_below (g := gb229) (o := .cells #[.int .i64 t221, .slice Ao36 t222.length co36, .slice Ao37 t225.length co37] 25 (0, 0)) (by (with_reducible repeat (first | refine bn ?_ _ | refine bd ?_ | refine ba ?_ _)); exact BK229.out) hb)
          have n14_ := Am (blk_below (g := gb238) (o := .cells #[.int .i64 t230, .slice Ao43 t231.length co43, .slice Ao44 t234.length co44] 25 (0, 0)) (by (with_reducible repeat (first | refine bn ?_ _ | refine bd ?_ | refine ba ?_ _)); exact BK238.out) hb)
          have n15_ := Am (blk_below (g := gb246) (o := .cells #[.int .i64 t239, .slice Ao51 t240.length co51, .slice (some ⟨go9, 0, none⟩) t243.length co52] 25 (0, 0)) (by (with_reducible repeat (first | refine bn ?_ _ | refine bd ?_ | refine ba ?_ _)); exact BK246.out) hb)
          have n16_ := Am (below_step (by repeat (first | (with_reducible first | exact HB.out | apply bl | apply pN | apply b1 | refine bs ?_ GE220.out | refine bs ?_ GE229.out | refine bs ?_ GE238.out | refine bs ?_ GE246.out) | exact HB.out | exact HBo.out)) hb)
          clear HO207
          clear HO210
          clear HO215
          clear HO218
          clear HO224
          clear HO227
          clear HO233
          clear HO236
          clear HO242
          clear HO245
          clear HO251
          clear HO254
          clear BK220
          clear BK229
          clear BK238
          clear BK246
          clear HB
          have HO207 := n0_
          have HO210 := n1_
          have HO215 := n2_
          have HO218 := n3_
          have HO224 := n4_
          have HO227 := n5_
          have HO233 := n6_
          have HO236 := n7_
          have HO242 := n8_
          have HO245 := n9_
          have HO251 := n10_
          have HO254 := n11_
          have BK220 := n12_
          have BK229 := n13_
          have BK238 := n14_
          have BK246 := n15_
          have HB := n16_
          clear n0_ n1_ n2_ n3_ n4_ n5_ n6_ n7_ n8_ n9_ n10_ n11_ n12_ n13_ n14_ n15_ n16_
          (try clear hb)
          (try clear hb2)
          (try clear hk)
          (try clear hi)
          refine hK.out _ _ ⟨(bc BK220.out 0).trans rfl, (bc BK220.out 1).trans rfl, (bc BK220.out 2).trans rfl, (bc BK246.out 0).trans rfl, (bc BK246.out 1).trans rfl, (bc BK246.out 2).trans rfl⟩ (fun hHeld => ?_)
          clear hK K
          refine norm_ (a' := ?_) ?_ ?_
          rotate_left
          ·
           show Act.put _ (some 36) _ = _
           simp only [Act.put, sI, sZ, sS, i64_w, i32_w]
           rfl
          refine Own.pr_ 6 (some 37) q8_7 HT_ (h := ?_)
          refine Own.pr_ 7 (some 38) q8_8 HT_ (h := ?_)
          refine Own.pr_ 8 (some 39) q8_9 HT_ (h := ?_)
          refine Own.pr_ 9 (some 40) q8_10 HT_ (h := ?_)
          refine Own.pr_ 10 (some 41) q8_11 HT_ (h := ?_)
          refine Own.pr_ 11 (some 42) q8_12 HT_ (h := ?_)
          refine Own.pr_ 12 (some 43) q8_13 HT_ (h := ?_)
          refine Own.pr_ 13 (some 44) q8_14 HT_ (h := ?_)
          refine Own.pr_ 14 (some 45) q8_15 HT_ (h := ?_)
          refine Own.pr_ 15 (some 46) q8_16 HT_ (h := ?_)
          refine Own.pr_ 16 (some 47) q8_17 HT_ (h := ?_)
          refine Own.pr_ 17 (some 48) q8_18 HT_ (h := ?_)
          refine Own.pr_ 18 (some 49) q8_19 HT_ (h := ?_)
          refine Own.pr_ 19 (some 50) q8_20 HT_ (h := ?_)
          refine one_ (i := 20) (N := some 51) q8_21 rfl rfl (one_of HT_.out (by kernel_rfl)) (by decide) (fun K hK => ?_)
          refine goes_ Try.func18 (by kernel_rfl) rfl #[] (by rfl) rfl rfl (by (try simp only [List.map_toArray, List.map_cons, List.map_nil]); first | done | rfl | (simp only [List.length_drop, List.length_take]; rfl)) ?_
          with_reducible refine (shuttlecocklaw08_one.calls  t256 t257 t260 _ A17.out).mono ?_
          rintro e w62 ⟨v258, v261, rfl, ho0, ho1, hb⟩
          refine ⟨_, rfl, ?_⟩
          have n0_ := Am (Kd.R_elder' (by (with_reducible repeat (first | apply Kd.R_alloc | apply Kd.R_drewN | apply Kd.R_drew)); exact HO207.out) (Kd.R_base ho0) hb)
          have n1_ := Am (Kd.R_elder' (by (with_reducible repeat (first | apply Kd.R_alloc | apply Kd.R_drewN | apply Kd.R_drew)); exact HO210.out) (Kd.R_base ho1) hb)
          have n2_ := Am (Kd.R_elder' (by (with_reducible repeat (first | apply Kd.R_alloc | apply Kd.R_drewN | apply Kd.R_drew)); exact HO215.out) (Kd.R_base ho0) hb)
          have n3_ := Am (Kd.R_elder' (by (with_reducible repeat (first | apply Kd.R_alloc | apply Kd.R_drewN | apply Kd.R_drew)); exact HO218.out) (Kd.R_base ho1) hb)
          have n4_ := Am (Kd.R_elder' (by (with_reducible repeat (first | apply Kd.R_alloc | apply Kd.R_drewN | apply Kd.R_drew)); exact HO224.out) (Kd.R_base ho0) hb)
          have n5_ := Am (Kd.R_elder' (by (with_reducible repeat (first | apply Kd.R_alloc | apply Kd.R_drewN | apply Kd.R_drew)); exact HO227.out) (Kd.R_base ho1) hb)
          have n6_ := Am (Kd.R_elder' (by (with_reducible repeat (first | apply Kd.R_alloc | apply Kd.R_drewN | apply Kd.R_drew)); exact HO233.out) (Kd.R_base ho0) hb)
          have n7_ := Am (Kd.R_elder' (by (with_reducible repeat (first | apply Kd.R_alloc | apply Kd.R_drewN | apply Kd.R_drew)); exact HO236.out) (Kd.R_base ho1) hb)
          have n8_ := Am (Kd.R_elder' (by (with_reducible repeat (first | apply Kd.R_alloc | apply Kd.R_drewN | apply Kd.R_drew)); exact HO242.out) (Kd.R_base ho0) hb)
          have n9_ := Am (Kd.R_elder' (by (with_reducible repeat (first | apply Kd.R_alloc | apply Kd.R_drewN | apply Kd.R_drew)); exact HO245.out) (Kd.R_base ho1) hb)
          have n10_ := Am (Kd.R_elder' (by (with_reducible repeat (first | apply Kd.R_alloc | apply Kd.R_drewN | apply Kd.R_drew)); exact HO251.out) (Kd.R_base ho0) hb)
          have n11_ := Am (Kd.R_elder' (by (with_reducible repeat (first | apply Kd.R_alloc | apply Kd.R_drewN | apply Kd.R_drew)); exact HO254.out) (Kd.R_base ho1) hb)
          have n12_ := Am (Kd.R_lower (Kd.R_new' (Kd.R_new' (Kd.R_new' (Kd.R_new' (Kd.R_new' (Kd.R_new' ho0 (Kd.R_lt (by (with_reducible repeat (first | apply Kd.R_alloc | apply Kd.R_drewN | apply Kd.R_drew)); exact HO207.out))) (Kd.R_lt (by (with_reducible repeat (first | apply Kd.R_alloc | apply Kd.R_drewN | apply Kd.R_drew)); exact HO215.out))) (Kd.R_lt (by (with_reducible repeat (first | apply Kd.R_alloc | apply Kd.R_drewN | apply Kd.R_drew)); exact HO224.out))) (Kd.R_lt (by (with_reducible repeat (first | apply Kd.R_alloc | apply Kd.R_drewN | apply Kd.R_drew)); exact HO233.out))) (Kd.R_lt (by (with_reducible repeat (first | apply Kd.R_alloc | apply Kd.R_drewN | apply Kd.R_drew)); exact HO242.out))) (Kd.R_lt (by (with_reducible repeat (first | apply Kd.R_alloc | apply Kd.R_drewN | apply Kd.R_drew)); exact HO251.out))) (below_size (by repeat (first | (with_reducible first | exact HB.out | apply bl | apply pN | apply b1 | refine bs ?_ GE220.out | refine bs ?_ GE229.out | refine bs ?_ GE238.out | refine bs ?_ GE246.out) | exact HB.out | exact HBo.out))))
          have n13_ := Am (Kd.R_lower (Kd.R_new' (Kd.R_new' (Kd.R_new' (Kd.R_new' (Kd.R_new' (Kd.R_new' ho1 (Kd.R_lt (by (with_reducible repeat (first | apply Kd.R_alloc | apply Kd.R_drewN | apply Kd.R_drew)); exact HO210.out))) (Kd.R_lt (by (with_reducible repeat (first | apply Kd.R_alloc | apply Kd.R_drewN | apply Kd.R_drew)); exact HO218.out))) (Kd.R_lt (by (with_reducible repeat (first | apply Kd.R_alloc | apply Kd.R_drewN | apply Kd.R_drew)); exact HO227.out))) (Kd.R_lt (by (with_reducible repeat (first | apply Kd.R_alloc | apply Kd.R_drewN | apply Kd.R_drew)); exact HO236.out))) (Kd.R_lt (by (with_reducible repeat (first | apply Kd.R_alloc | apply Kd.R_drewN | apply Kd.R_drew)); exact HO245.out))) (Kd.R_lt (by (with_reducible repeat (first | apply Kd.R_alloc | apply Kd.R_drewN | apply Kd.R_drew)); exact HO254.out))) (below_size (by repeat (first | (with_reducible first | exact HB.out | apply bl | apply pN | apply b1 | refine bs ?_ GE220.out | refine bs ?_ GE229.out | refine bs ?_ GE238.out | refine bs ?_ GE246.out) | exact HB.out | exact HBo.out))))
          have n14_ := Am (blk_below (g := gb220) (o := .cells #[.int .i64 t212, .slice Ao30 t213.length co30, .slice Ao31 t216.length co31] 25 (0, 0)) (by (with_reducible repeat (first | refine bn ?_ _ | refine bd ?_ | refine ba ?_ _)); exact BK220.out) hb)
          have n15_ := Am (blk_below (g := gb229) (o := .cells #[.int .i64 t221, .slice Ao36 t222.length co36, .slice Ao37 t225.length co37] 25 (0, 0)) (by (with_reducible repeat (first | refine bn ?_ _ | refine bd ?_ | refine ba ?_ _)); exact BK229.out) hb)
          have n16_ := Am (blk_below (g := gb238) (o := .cells #[.int .i64 t230, .slice Ao43 t231.length co43, .slice Ao44 t234.length co44] 25 (0, 0)) (by (with_reducible repeat (first | refine bn ?_ _ | refine bd ?_ | refine ba ?_ _)); exact BK238.out) hb)
          have n17_ := Am (blk_below (g := gb246) (o := .cells #[.int .i64 t239, .slice Ao51 t240.length co51, .slice (some ⟨go9, 0, none⟩) t243.length co52] 25 (0, 0)) (by (with_reducible repeat (first | refine bn ?_ _ | refine bd ?_ | refine ba ?_ _)); exact BK246.out) hb)
          have n18_ := Am (below_step (by repeat (first | (with_reducible first | exact HB.out | apply bl | apply pN | apply b1 | refine bs ?_ GE220.out | refine bs ?_ GE229.out | refine bs ?_ GE238.out | refine bs ?_ GE246.out) | exact HB.out | exact HBo.out)) hb)
          clear HO207
          clear HO210
          clear HO215
          clear HO218
          clear HO224
          clear HO227
          clear HO233
          clear HO236
          clear HO242
          clear HO245
          clear HO251
          clear HO254
          clear BK220
          clear BK229
          clear BK238
          clear BK246
          clear HB
          have HO207 := n0_
          have HO210 := n1_
          have HO215 := n2_
          have HO218 := n3_
          have HO224 := n4_
          have HO227 := n5_
          have HO233 := n6_
          have HO236 := n7_
          have HO242 := n8_
          have HO245 := n9_
          have HO251 := n10_
          have HO254 := n11_
          have HO259 := n12_
          have HO262 := n13_
          have BK220 := n14_
          have BK229 := n15_
          have BK238 := n16_
          have BK246 := n17_
          have HB := n18_
          clear n0_ n1_ n2_ n3_ n4_ n5_ n6_ n7_ n8_ n9_ n10_ n11_ n12_ n13_ n14_ n15_ n16_ n17_ n18_
          (try clear hb)
          (try clear hb2)
          (try clear hk)
          (try clear hi)
          (try clear ho0)
          (try clear ho1)
          obtain ⟨Ao63, co63, eo63⟩ := Kd.R_slice HO259.out
          (first | subst eo63 | (injection eo63 with f1_ f2_ f3_; have f4_ := f1_.symm; have f5_ := f3_.symm; clear f1_ f2_ f3_; subst f4_; subst f5_))
          obtain ⟨Ao64, co64, eo64⟩ := Kd.R_slice HO262.out
          (first | subst eo64 | (injection eo64 with f1_ f2_ f3_; have f4_ := f1_.symm; have f5_ := f3_.symm; clear f1_ f2_ f3_; subst f4_; subst f5_))
          refine hK.out _ _ ⟨(bc BK220.out 0).trans rfl, (bc BK220.out 1).trans rfl, (bc BK220.out 2).trans rfl, (bc BK246.out 0).trans rfl, (bc BK246.out 1).trans rfl, (bc BK246.out 2).trans rfl⟩ (fun hHeld => ?_)
          clear hK K
          refine norm_ (a' := ?_) ?_ ?_
          rotate_left
          ·
           show Act.put _ (some 51) _ = _
           simp only [Act.put, sI, sZ, sS, i64_w, i32_w]
           rfl
          refine one_ (i := 21) (N := some 52) q8_22 rfl rfl (one_of HT_.out (by kernel_rfl)) (by decide) (fun K hK => ?_)
          refine goes_ Try.func12 (by kernel_rfl) rfl #[.agg #[.int .i64 t256, .slice Ao63 t257.length co63, .slice Ao64 t260.length co64]] (by rfl) rfl rfl (by (try simp only [List.map_toArray, List.map_cons, List.map_nil]); first | done | rfl | (simp only [List.length_drop, List.length_take]; rfl)) ?_
          with_reducible refine (snap_May.calls t256 _ _ t257 _ _ t260 true _ ?side1 ?side2 ?side3 ?side4 A18.out).mono ?_
          (case side1 => repeat (first | exact (Kd.R_reads' HO259.out).2.2 | (with_reducible refine Kd.C_alloc ?_ _) | (with_reducible refine Kd.C_drewN ?_ _) | (with_reducible refine Kd.C_drew ?_)))
          (case side2 => exact (Kd.R_reads' HO259.out).2.1)
          (case side3 => repeat (first | exact (Kd.R_reads' HO262.out).2.2 | (with_reducible refine Kd.C_alloc ?_ _) | (with_reducible refine Kd.C_drewN ?_ _) | (with_reducible refine Kd.C_drew ?_)))
          (case side4 => exact (Kd.R_reads' HO262.out).2.1)
          rintro e w65 ⟨rfl, hb⟩
          refine ⟨_, rfl, ?_⟩
          have n0_ := Am (Kd.R_below (by (with_reducible repeat (first | apply Kd.R_alloc | apply Kd.R_drewN | apply Kd.R_drew)); exact HO207.out) hb)
          have n1_ := Am (Kd.R_below (by (with_reducible repeat (first | apply Kd.R_alloc | apply Kd.R_drewN | apply Kd.R_drew)); exact HO210.out) hb)
          have n2_ := Am (Kd.R_below (by (with_reducible repeat (first | apply Kd.R_alloc | apply Kd.R_drewN | apply Kd.R_drew)); exact HO215.out) hb)
          have n3_ := Am (Kd.R_below (by (with_reducible repeat (first | apply Kd.R_alloc | apply Kd.R_drewN | apply Kd.R_drew)); exact HO218.out) hb)
          have n4_ := Am (Kd.R_below (by (with_reducible repeat (first | apply Kd.R_alloc | apply Kd.R_drewN | apply Kd.R_drew)); exact HO224.out) hb)
          have n5_ := Am (Kd.R_below (by (with_reducible repeat (first | apply Kd.R_alloc | apply Kd.R_drewN | apply Kd.R_drew)); exact HO227.out) hb)
          have n6_ := Am (Kd.R_below (by (with_reducible repeat (first | apply Kd.R_alloc | apply Kd.R_drewN | apply Kd.R_drew)); exact HO233.out) hb)
          have n7_ := Am (Kd.R_below (by (with_reducible repeat (first | apply Kd.R_alloc | apply Kd.R_drewN | apply Kd.R_drew)); exact HO236.out) hb)
          have n8_ := Am (Kd.R_below (by (with_reducible repeat (first | apply Kd.R_alloc | apply Kd.R_drewN | apply Kd.R_drew)); exact HO242.out) hb)
          have n9_ := Am (Kd.R_below (by (with_reducible repeat (first | apply Kd.R_alloc | apply Kd.R_drewN | apply Kd.R_drew)); exact HO245.out) hb)
          have n10_ := Am (Kd.R_below (by (with_reducible repeat (first | apply Kd.R_alloc | apply Kd.R_drewN | apply Kd.R_drew)); exact HO251.out) hb)
          have n11_ := Am (Kd.R_below (by (with_reducible repeat (first | apply Kd.R_alloc | apply Kd.R_drewN | apply Kd.R_drew)); exact HO254.out) hb)
          have n12_ := Am (Kd.R_below (by (with_reducible repeat (first | apply Kd.R_alloc | apply Kd.R_drewN | apply Kd.R_drew)); exact HO259.out) hb)
          have n13_ := Am (Kd.R_below (by (with_reducible repeat (first | apply Kd.R_alloc | apply Kd.R_drewN | apply Kd.R_drew)); exact HO262.out) hb)
          have n14_ := Am (blk_below (g := gb220) (o := .cells #[.int .i64 t212, .slice Ao30 t213.length co30, .slice Ao31 t216.length co31] 25 (0, 0)) (by (with_reducible repeat (first | refine bn ?_ _ | refine bd ?_ | refine ba ?_ _)); exact BK220.out) hb)
          have n15_ := Am (blk_below (g := gb229) (o := .cells #[.int .i64 t221, .slice Ao36 t222.length co36, .slice Ao37 t225.length co37] 25 (0, 0)) (by (with_reducible repeat (first | refine bn ?_ _ | refine bd ?_ | refine ba ?_ _)); exact BK229.out) hb)
          have n16_ := Am (blk_below (g := gb238) (o := .cells #[.int .i64 t230, .slice Ao43 t231.length co43, .slice Ao44 t234.length co44] 25 (0, 0)) (by (with_reducible repeat (first | refine bn ?_ _ | refine bd ?_ | refine ba ?_ _)); exact BK238.out) hb)
          have n17_ := Am (blk_below (g := gb246) (o := .cells #[.int .i64 t239, .slice Ao51 t240.length co51, .slice (some ⟨go9, 0, none⟩) t243.length co52] 25 (0, 0)) (by (with_reducible repeat (first | refine bn ?_ _ | refine bd ?_ | refine ba ?_ _)); exact BK246.out) hb)
          have n18_ := Am (below_step (by repeat (first | (with_reducible first | exact HB.out | apply bl | apply pN | apply b1 | refine bs ?_ GE220.out | refine bs ?_ GE229.out | refine bs ?_ GE238.out | refine bs ?_ GE246.out) | exact HB.out | exact HBo.out)) hb)
          clear HO207
          clear HO210
          clear HO215
          clear HO218
          clear HO224
          clear HO227
          clear HO233
          clear HO236
          clear HO242
          clear HO245
          clear HO251
          clear HO254
          clear HO259
          clear HO262
          clear BK220
          clear BK229
          clear BK238
          clear BK246
          clear HB
          have HO207 := n0_
          have HO210 := n1_
          have HO215 := n2_
          have HO218 := n3_
          have HO224 := n4_
          have HO227 := n5_
          have HO233 := n6_
          have HO236 := n7_
          have HO242 := n8_
          have HO245 := n9_
          have HO251 := n10_
          have HO254 := n11_
          have HO259 := n12_
          have HO262 := n13_
          have BK220 := n14_
          have BK229 := n15_
          have BK238 := n16_
          have BK246 := n17_
          have HB := n18_
          clear n0_ n1_ n2_ n3_ n4_ n5_ n6_ n7_ n8_ n9_ n10_ n11_ n12_ n13_ n14_ n15_ n16_ n17_ n18_
          (try clear hb)
          (try clear hb2)
          (try clear hk)
          (try clear hi)
          refine hK.out _ _ ⟨(bc BK220.out 0).trans rfl, (bc BK220.out 1).trans rfl, (bc BK220.out 2).trans rfl, (bc BK246.out 0).trans rfl, (bc BK246.out 1).trans rfl, (bc BK246.out 2).trans rfl⟩ (fun hHeld => ?_)
          clear hK K
          refine norm_ (a' := ?_) ?_ ?_
          rotate_left
          ·
           show Act.put _ (some 52) _ = _
           simp only [Act.put, sI, sZ, sS, i64_w, i32_w]
           rfl
          refine Own.pr_ 22 (some 53) q8_23 HT_ (h := ?_)
          refine Own.pr_ 23 (some 54) q8_24 HT_ (h := ?_)
          refine Own.tk_ 24 (some 55) q8_25 HT_ HW_ hHeld (hy := by rintro w' ⟨s0, s1, s2, s3, s4, s5⟩; go_simp; with_reducible rfl) (h := ?_)
          refine one_ (i := 25) (N := some 56) q8_26 rfl rfl (one_of HT_.out (by kernel_rfl)) (by decide) (fun K hK => ?_)
          refine goes_ Try.func12 (by kernel_rfl) rfl #[.agg #[.int .i64 t239, .slice Ao51 t240.length co51, .slice (some ⟨go9, 0, none⟩) y247.length co52]] (by rfl) rfl rfl (by (try simp only [List.map_toArray, List.map_cons, List.map_nil]); first | done | (rw [show y247.length = t243.length from (Kd.R_reads' HO245.out).1.symm] <;> rfl) | rfl | (simp only [List.length_drop, List.length_take]; rfl)) ?_
          with_reducible refine (snap_May.calls t239 _ _ t240 _ _ y247 false _ ?side1 ?side2 ?side3 ?side4 A20.out).mono ?_
          (case side1 => repeat (first | exact (Kd.R_reads' HO242.out).2.2 | (with_reducible refine Kd.C_alloc ?_ _) | (with_reducible refine Kd.C_drewN ?_ _) | (with_reducible refine Kd.C_drew ?_)))
          (case side2 => exact (Kd.R_reads' HO242.out).2.1)
          (case side3 => repeat (first | exact (Kd.R_reads' HO245.out).2.2 | (with_reducible refine Kd.C_alloc ?_ _) | (with_reducible refine Kd.C_drewN ?_ _) | (with_reducible refine Kd.C_drew ?_)))
          (case side4 => rw [show y247.length = t243.length from (Kd.R_reads' HO245.out).1.symm]; exact (Kd.R_reads' HO245.out).2.1)
          rintro e w66 ⟨rfl, hb⟩
          refine ⟨_, rfl, ?_⟩
          have n0_ := Am (Kd.R_below (by (with_reducible repeat (first | apply Kd.R_alloc | apply Kd.R_drewN | apply Kd.R_drew)); exact HO207.out) hb)
          have n1_ := Am (Kd.R_below (by (with_reducible repeat (first | apply Kd.R_alloc | apply Kd.R_drewN | apply Kd.R_drew)); exact HO210.out) hb)
          have n2_ := Am (Kd.R_below (by (with_reducible repeat (first | apply Kd.R_alloc | apply Kd.R_drewN | apply Kd.R_drew)); exact HO215.out) hb)
          have n3_ := Am (Kd.R_below (by (with_reducible repeat (first | apply Kd.R_alloc | apply Kd.R_drewN | apply Kd.R_drew)); exact HO218.out) hb)
          have n4_ := Am (Kd.R_below (by (with_reducible repeat (first | apply Kd.R_alloc | apply Kd.R_drewN | apply Kd.R_drew)); exact HO224.out) hb)
          have n5_ := Am (Kd.R_below (by (with_reducible repeat (first | apply Kd.R_alloc | apply Kd.R_drewN | apply Kd.R_drew)); exact HO227.out) hb)
          have n6_ := Am (Kd.R_below (by (with_reducible repeat (first | apply Kd.R_alloc | apply Kd.R_drewN | apply Kd.R_drew)); exact HO233.out) hb)
          have n7_ := Am (Kd.R_below (by (with_reducible repeat (first | apply Kd.R_alloc | apply Kd.R_drewN | apply Kd.R_drew)); exact HO236.out) hb)
          have n8_ := Am (Kd.R_below (by (with_reducible repeat (first | apply Kd.R_alloc | apply Kd.R_drewN | apply Kd.R_drew)); exact HO242.out) hb)
          have n9_ := Am (Kd.R_below (by (with_reducible repeat (first | apply Kd.R_alloc | apply Kd.R_drewN | apply Kd.R_drew)); exact HO245.out) hb)
          have n10_ := Am (Kd.R_below (by (with_reducible repeat (first | apply Kd.R_alloc | apply Kd.R_drewN | apply Kd.R_drew)); exact HO251.out) hb)
          have n11_ := Am (Kd.R_below (by (with_reducible repeat (first | apply Kd.R_alloc | apply Kd.R_drewN | apply Kd.R_drew)); exact HO254.out) hb)
          have n12_ := Am (Kd.R_below (by (with_reducible repeat (first | apply Kd.R_alloc | apply Kd.R_drewN | apply Kd.R_drew)); exact HO259.out) hb)
          have n13_ := Am (Kd.R_below (by (with_reducible repeat (first | apply Kd.R_alloc | apply Kd.R_drewN | apply Kd.R_drew)); exact HO262.out) hb)
          have n14_ := Am (blk_below (g := gb220) (o := .cells #[.int .i64 t212, .slice Ao30 t213.length co30, .slice Ao31 t216.length co31] 25 (0, 0)) (by (with_reducible repeat (first | refine bn ?_ _ | refine bd ?_ | refine ba ?_ _)); exact BK220.out) hb)
          have n15_ := Am (blk_below (g := gb229) (o := .cells #[.int .i64 t221, .slice Ao36 t222.length co36, .slice Ao37 t225.length co37] 25 (0, 0)) (by (with_reducible repeat (first | refine bn ?_ _ | refine bd ?_ | refine ba ?_ _)); exact BK229.out) hb)
          have n16_ := Am (blk_below (g := gb238) (o := .cells #[.int .i64 t230, .slice Ao43 t231.length co43, .slice Ao44 t234.length co44] 25 (0, 0)) (by (with_reducible repeat (first | refine bn ?_ _ | refine bd ?_ | refine ba ?_ _)); exact BK238.out) hb)
          have n17_ := Am (blk_below (g := gb246) (o := .cells #[.int .i64 t239, .slice Ao51 t240.length co51, .slice (some ⟨go9, 0, none⟩) t243.length co52] 25 (0, 0)) (by (with_reducible repeat (first | refine bn ?_ _ | refine bd ?_ | refine ba ?_ _)); exact BK246.out) hb)
          have n18_ := Am (below_step (by repeat (first | (with_reducible first | exact HB.out | apply bl | apply pN | apply b1 | refine bs ?_ GE220.out | refine bs ?_ GE229.out | refine bs ?_ GE238.out | refine bs ?_ GE246.out) | exact HB.out | exact HBo.out)) hb)
          clear HO207
          clear HO210
          clear HO215
          clear HO218
          clear HO224
          clear HO227
          clear HO233
          clear HO236
          clear HO242
          clear HO245
          clear HO251
          clear HO254
          clear HO259
          clear HO262
          clear BK220
          clear BK229
          clear BK238
          clear BK246
          clear HB
          have HO207 := n0_
          have HO210 := n1_
          have HO215 := n2_
          have HO218 := n3_
          have HO224 := n4_
          have HO227 := n5_
          have HO233 := n6_
          have HO236 := n7_
          have HO242 := n8_
          have HO245 := n9_
          have HO251 := n10_
          have HO254 := n11_
          have HO259 := n12_
          have HO262 := n13_
          have BK220 := n14_
          have BK229 := n15_
          have BK238 := n16_
          have BK246 := n17_
          have HB := n18_
          clear n0_ n1_ n2_ n3_ n4_ n5_ n6_ n7_ n8_ n9_ n10_ n11_ n12_ n13_ n14_ n15_ n16_ n17_ n18_
          (try clear hb)
          (try clear hb2)
          (try clear hk)
          (try clear hi)
          refine hK.out _ _ ⟨(bc BK220.out 0).trans rfl, (bc BK220.out 1).trans rfl, (bc BK220.out 2).trans rfl, (bc BK246.out 0).trans rfl, (bc BK246.out 1).trans rfl, (bc BK246.out 2).trans rfl⟩ (fun hHeld => ?_)
          clear hK K
          refine norm_ (a' := ?_) ?_ ?_
          rotate_left
          ·
           show Act.put _ (some 56) _ = _
           simp only [Act.put, sI, sZ, sS, i64_w, i32_w]
           rfl
          refine Own.pr_ 26 (some 57) q8_27 HT_ (h := ?_)
          refine Own.pr_ 27 (some 58) q8_28 HT_ (h := ?_)
          refine Own.pr_ 28 (some 59) q8_29 HT_ (h := ?_)
          refine Own.tk_ 29 (some 60) q8_30 HT_ HW_ hHeld (hy := by rintro w' ⟨s0, s1, s2, s3, s4, s5⟩; go_simp; with_reducible rfl) (h := ?_)
          refine one_ (i := 30) (N := some 61) q8_31 rfl rfl (one_of HT_.out (by kernel_rfl)) (by decide) (fun K hK => ?_)
          refine goes_ Try.func14 (by kernel_rfl) rfl #[.agg #[.int .i64 t239, .slice Ao51 t240.length co51, .slice (some ⟨go9, 0, none⟩) y247.length co52]] (by rfl) rfl rfl (by (try simp only [List.map_toArray, List.map_cons, List.map_nil]); first | done | (rw [show y247.length = t243.length from (Kd.R_reads' HO245.out).1.symm] <;> rfl) | rfl | (simp only [List.length_drop, List.length_take]; rfl)) ?_
          with_reducible refine (snap_Encode.calls k t239 _ _ t240 _ _ y247 t265 _ ?side1 ?side2 ?side3 ?side4 A22.out).mono ?_
          (case side1 => repeat (first | exact (Kd.R_reads' HO242.out).2.2 | (with_reducible refine Kd.C_alloc ?_ _) | (with_reducible refine Kd.C_drewN ?_ _) | (with_reducible refine Kd.C_drew ?_)))
          (case side2 => exact (Kd.R_reads' HO242.out).2.1)
          (case side3 => repeat (first | exact (Kd.R_reads' HO245.out).2.2 | (with_reducible refine Kd.C_alloc ?_ _) | (with_reducible refine Kd.C_drewN ?_ _) | (with_reducible refine Kd.C_drew ?_)))
          (case side4 => rw [show y247.length = t243.length from (Kd.R_reads' HO245.out).1.symm]; exact (Kd.R_reads' HO245.out).2.1)
          rintro e w67 ⟨rfl, hb⟩
          refine ⟨_, rfl, ?_⟩
          have n0_ := Am (Kd.R_below (by (with_reducible repeat (first | apply Kd.R_alloc | apply Kd.R_drewN | apply Kd.R_drew)); exact HO207.out) hb)
          have n1_ := Am (Kd.R_below (by (with_reducible repeat (first | apply Kd.R_alloc | apply Kd.R_drewN | apply Kd.R_drew)); exact HO210.out) hb)
          have n2_ := Am (Kd.R_below (by (with_reducible repeat (first | apply Kd.R_alloc | apply Kd.R_drewN | apply Kd.R_drew)); exact HO215.out) hb)
          have n3_ := Am (Kd.R_below (by (with_reducible repeat (first | apply Kd.R_alloc | apply Kd.R_drewN | apply Kd.R_drew)); exact HO218.out) hb)
          have n4_ := Am (Kd.R_below (by (with_reducible repeat (first | apply Kd.R_alloc | apply Kd.R_drewN | apply Kd.R_drew)); exact HO224.out) hb)
          have n5_ := Am (Kd.R_below (by (with_reducible repeat (first | apply Kd.R_alloc | apply Kd.R_drewN | apply Kd.R_drew)); exact HO227.out) hb)
          have n6_ := Am (Kd.R_below (by (with_reducible repeat (first | apply Kd.R_alloc | apply Kd.R_drewN | apply Kd.R_drew)); exact HO233.out) hb)
          have n7_ := Am (Kd.R_below (by (with_reducible repeat (first | apply Kd.R_alloc | apply Kd.R_drewN | apply Kd.R_drew)); exact HO236.out) hb)
          have n8_ := Am (Kd.R_below (by (with_reducible repeat (first | apply Kd.R_alloc | apply Kd.R_drewN | apply Kd.R_drew)); exact HO242.out) hb)
          have n9_ := Am (Kd.R_below (by (with_reducible repeat (first | apply Kd.R_alloc | apply Kd.R_drewN | apply Kd.R_drew)); exact HO245.out) hb)
          have n10_ := Am (Kd.R_below (by (with_reducible repeat (first | apply Kd.R_alloc | apply Kd.R_drewN | apply Kd.R_drew)); exact HO251.out) hb)
          have n11_ := Am (Kd.R_below (by (with_reducible repeat (first | apply Kd.R_alloc | apply Kd.R_drewN | apply Kd.R_drew)); exact HO254.out) hb)
          have n12_ := Am (Kd.R_below (by (with_reducible repeat (first | apply Kd.R_alloc | apply Kd.R_drewN | apply Kd.R_drew)); exact HO259.out) hb)
          have n13_ := Am (Kd.R_below (by (with_reducible repeat (first | apply Kd.R_alloc | apply Kd.R_drewN | apply Kd.R_drew)); exact HO262.out) hb)
          have n14_ := Am (blk_below (g := gb220) (o := .cells #[.int .i64 t212, .slice Ao30 t213.length co30, .slice Ao31 t216.length co31] 25 (0, 0)) (by (with_reducible repeat (first | refine bn ?_ _ | refine bd ?_ | refine ba ?_ _)); exact BK220.out) hb)
          have n15_ := Am (blk_below (g := gb229) (o := .cells #[.int .i64 t221, .slice Ao36 t222.length co36, .slice Ao37 t225.length co37] 25 (0, 0)) (by (with_reducible repeat (first | refine bn ?_ _ | refine bd ?_ | refine ba ?_ _)); exact BK229.out) hb)
          have n16_ := Am (blk_below (g := gb238) (o := .cells #[.int .i64 t230, .slice Ao43 t231.length co43, .slice Ao44 t234.length co44] 25 (0, 0)) (by (with_reducible repeat (first | refine bn ?_ _ | refine bd ?_ | refine ba ?_ _)); exact BK238.out) hb)
          have n17_ := Am (blk_below (g := gb246) (o := .cells #[.int .i64 t239, .slice Ao51 t240.length co51, .slice (some ⟨go9, 0, none⟩) t243.length co52] 25 (0, 0)) (by (with_reducible repeat (first | refine bn ?_ _ | refine bd ?_ | refine ba ?_ _)); exact BK246.out) hb)
          have n18_ := Am (below_step (by repeat (first | (with_reducible first | exact HB.out | apply bl | apply pN | apply b1 | refine bs ?_ GE220.out | refine bs ?_ GE229.out | refine bs ?_ GE238.out | refine bs ?_ GE246.out) | exact HB.out | exact HBo.out)) hb)
          clear HO207
          clear HO210
          clear HO215
          clear HO218
          clear HO224
          clear HO227
          clear HO233
          clear HO236
          clear HO242
          clear HO245
          clear HO251
          clear HO254
          clear HO259
          clear HO262
          clear BK220
          clear BK229
          clear BK238
          clear BK246
          clear HB
          have HO207 := n0_
          have HO210 := n1_
          have HO215 := n2_
          have HO218 := n3_
          have HO224 := n4_
          have HO227 := n5_
          have HO233 := n6_
          have HO236 := n7_
          have HO242 := n8_
          have HO245 := n9_
          have HO251 := n10_
          have HO254 := n11_
          have HO259 := n12_
          have HO262 := n13_
          have BK220 := n14_
          have BK229 := n15_
          have BK238 := n16_
          have BK246 := n17_
          have HB := n18_
          clear n0_ n1_ n2_ n3_ n4_ n5_ n6_ n7_ n8_ n9_ n10_ n11_ n12_ n13_ n14_ n15_ n16_ n17_ n18_
          (try clear hb)
          (try clear hb2)
          (try clear hk)
          (try clear hi)
          refine hK.out _ _ ⟨(bc BK220.out 0).trans rfl, (bc BK220.out 1).trans rfl, (bc BK220.out 2).trans rfl, (bc BK246.out 0).trans rfl, (bc BK246.out 1).trans rfl, (bc BK246.out 2).trans rfl⟩ (fun hHeld => ?_)
          clear hK K
          refine norm_ (a' := ?_) ?_ ?_
          rotate_left
          ·
           show Act.put _ (some 61) _ = _
           simp only [Act.put, sI, sZ, sS, i64_w, i32_w]
           rfl
          refine Own.pr_ 31 (some 62) q8_32 HT_ (h := ?_)
          refine Own.pr_ 32 (some 63) q8_33 HT_ (h := ?_)
          refine Own.pr_ 33 (some 0) q8_34 HT_ (h := ?_)
          refine done_ (done_of HT_.out (by kernel_rfl)) ?_
          try go_wp2
          go_ret
          exact ⟨by first | rfl | (simp [errW_none, errW_some] <;> rfl) | (simp [*, errW_none, errW_some] <;> rfl) | (simp [Aid.ne_nil, Aid.eq_nil, errW_none, errW_some]; done), by repeat (first | (with_reducible first | exact HB.out | apply bl | apply pN | apply b1 | refine bs ?_ GE220.out | refine bs ?_ GE229.out | refine bs ?_ GE238.out | refine bs ?_ GE246.out) | exact HB.out | exact HBo.out)⟩
        ·
         replace c19 := Bool.eq_false_iff.mpr c19
         subst c19
         have H1 : (none) = some r := by rw [if_neg (show ¬ (false = true) by decide)] at H; exact H
         clear H
         have H := H1
         clear H1
         exact absurd H (by simp)
       ·
        rw [if_neg c16] at H
        have c16b0 : (t237 == 10) = false := beq_eq_false_iff_ne.mpr c16
        have c16b1 : (t237 != 10) = true := bne_iff_ne.mpr c16
        exact absurd H (by simp)
      ·
       rw [if_neg c15] at H
       have c15b0 : (t228 == 80) = false := beq_eq_false_iff_ne.mpr c15
       have c15b1 : (t228 != 80) = true := bne_iff_ne.mpr c15
       exact absurd H (by simp)
     ·
      rw [if_neg c14] at H
      have c14b0 : (t219 == 0) = false := beq_eq_false_iff_ne.mpr c14
      have c14b1 : (t219 != 0) = true := bne_iff_ne.mpr c14
      exact absurd H (by simp)
    ·
     replace c13 := Bool.eq_false_iff.mpr c13
     subst c13
     have H1 : (none) = some r := by rw [if_neg (show ¬ (false = true) by decide)] at H; exact H
     clear H
     have H := H1
     clear H1
     exact absurd H (by simp)
   ·
    rw [if_neg c10] at H
    have c10b0 : (t211.toList == ([5, 1, 1, 2, 1, 1, 2, 1, 3] : List UInt8)) = false := beq_eq_false_iff_ne.mpr c10
    have c10b1 : (t211.toList != ([5, 1, 1, 2, 1, 1, 2, 1, 3] : List UInt8)) = true := bne_iff_ne.mpr c10
    exact absurd H (by simp)
  ·
   rw [if_neg c8] at H
   exact absurd H (by simp)
 ·
  rw [if_neg c4] at H
  exact absurd H (by simp)

end Go.Proofs.Ythfdhoegboeaeaa.Q
