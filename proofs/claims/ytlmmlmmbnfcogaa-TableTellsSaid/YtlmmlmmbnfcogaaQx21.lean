-- printed by a program of this session (NOTES: hprint); not the kit's print
-- minified3
-- minified2
-- minified
-- halved
import Derived.Test.YtlmmlmmbnfcogaaOg
import Derived.Test.YtlmmlmmbnfcogaaAl
import Derived.Test.YtlmmlmmbnfcogaaQx0
import Derived.Test.YtlmmlmmbnfcogaaQx2
import Derived.Test.YtlmmlmmbnfcogaaQx6
import Derived.Test.YtlmmlmmbnfcogaaQx7
import Derived.Test.YtlmmlmmbnfcogaaQx8
import Derived.Test.YtlmmlmmbnfcogaaQx9
import Derived.Test.YtlmmlmmbnfcogaaQx18
import Derived.Test.YtlmmlmmbnfcogaaQx19
import Derived.Test.YtlmmlmmbnfcogaaQx20
namespace Go.Proofs.Ytlmmlmmbnfcogaa.Q
open Go.RowKit Go.Proofs.YtlmmlmmbnfcogaaW.PrintWords Go.Proofs.YtlmmlmmbnfcogaaW.PrintLast Go.Proofs.YtlmmlmmbnfcogaaW.PrintMore
attribute [local go_sem] max2_int min2_int max_two min_two max_three min_three max_four min_four   -- for this text's walks alone
set_option linter.unusedVariables false
set_option linter.unusedSimpArgs false

def q21_0 : Array Bool := let o := true; let z := false; #[z,z,z,z,z,z,z,z,z,z,z,z,z,z,z,z,z,z,z,z,z,z,z,z,z,z,z,z,z,z,z,z,z,z,z,z,z,z,z]
def q21_1 : Array Bool := let o := true; let z := false; #[o,z,z,z,z,z,z,z,z,z,z,z,z,z,z,z,z,z,z,z,z,z,z,z,z,z,z,z,z,z,z,z,z,z,z,z,z,z,z]
def q21_2 : Array Bool := let o := true; let z := false; #[o,o,z,z,z,z,z,z,z,z,z,z,z,z,z,z,z,z,z,z,z,z,z,z,z,z,z,z,z,z,z,z,z,z,z,z,z,z,z]
def q21_3 : Array Bool := let o := true; let z := false; #[o,o,o,z,z,z,z,z,z,z,z,z,z,z,z,z,z,z,z,z,z,z,z,z,z,z,z,z,z,z,z,z,z,z,z,z,z,z,z]
def q21_4 : Array Bool := let o := true; let z := false; #[o,o,o,z,o,z,z,z,z,z,z,z,z,z,z,z,z,z,z,z,z,z,z,z,z,z,z,z,z,z,z,z,z,z,z,z,z,z,z]
def q21_5 : Array Bool := let o := true; let z := false; #[o,o,o,o,o,z,z,z,z,z,z,z,z,z,z,z,z,z,z,z,z,z,z,z,z,z,z,z,z,z,z,z,z,z,z,z,z,z,z]
def q21_6 : Array Bool := let o := true; let z := false; #[o,o,o,o,o,o,z,z,z,z,z,z,z,z,z,z,z,z,z,z,z,z,z,z,z,z,z,z,z,z,z,z,z,z,z,z,z,z,z]
def q21_7 : Array Bool := let o := true; let z := false; #[o,o,o,o,o,o,o,z,z,z,z,z,z,z,z,z,z,z,z,z,z,z,z,z,z,z,z,z,z,z,z,z,z,z,z,z,z,z,z]
def q21_8 : Array Bool := let o := true; let z := false; #[o,o,o,o,o,o,o,o,z,z,z,z,z,z,z,z,z,z,z,z,z,z,z,z,z,z,z,z,z,z,z,z,z,z,z,z,z,z,z]
def q21_9 : Array Bool := let o := true; let z := false; #[o,o,o,o,o,o,o,o,o,z,z,z,z,z,z,z,z,z,z,z,z,z,z,z,z,z,z,z,z,z,z,z,z,z,z,z,z,z,z]
def q21_10 : Array Bool := let o := true; let z := false; #[o,o,o,o,o,o,o,o,o,z,o,z,z,z,z,z,z,z,z,z,z,z,z,z,z,z,z,z,z,z,z,z,z,z,z,z,z,z,z]
def q21_11 : Array Bool := let o := true; let z := false; #[o,o,o,o,o,o,o,o,o,z,o,z,o,z,z,z,z,z,z,z,z,z,z,z,z,z,z,z,z,z,z,z,z,z,z,z,z,z,z]
def q21_12 : Array Bool := let o := true; let z := false; #[o,o,o,o,o,o,o,o,o,z,o,z,o,z,z,z,o,z,z,z,z,z,z,z,z,z,z,z,z,z,z,z,z,z,z,z,z,z,z]
def q21_13 : Array Bool := let o := true; let z := false; #[o,o,o,o,o,o,o,o,o,z,o,z,o,z,z,z,o,z,o,z,z,z,z,z,z,z,z,z,z,z,z,z,z,z,z,z,z,z,z]
def q21_14 : Array Bool := let o := true; let z := false; #[o,o,o,o,o,o,o,o,o,o,o,z,o,z,z,z,o,z,o,z,z,z,z,z,z,z,z,z,z,z,z,z,z,z,z,z,z,z,z]
def q21_15 : Array Bool := let o := true; let z := false; #[o,o,o,o,o,o,o,o,o,o,o,o,o,z,z,z,o,z,o,z,z,z,z,z,z,z,z,z,z,z,z,z,z,z,z,z,z,z,z]
def q21_16 : Array Bool := let o := true; let z := false; #[o,o,o,o,o,o,o,o,o,o,o,o,o,o,z,z,o,z,o,z,z,z,z,z,z,z,z,z,z,z,z,z,z,z,z,z,z,z,z]
def q21_17 : Array Bool := let o := true; let z := false; #[o,o,o,o,o,o,o,o,o,o,o,o,o,o,z,o,o,z,o,z,z,z,z,z,z,z,z,z,z,z,z,z,z,z,z,z,z,z,z]
def q21_18 : Array Bool := let o := true; let z := false; #[o,o,o,o,o,o,o,o,o,o,o,o,o,o,z,o,o,o,o,z,z,z,z,z,z,z,z,z,z,z,z,z,z,z,z,z,z,z,z]
def q21_19 : Array Bool := let o := true; let z := false; #[o,o,o,o,o,o,o,o,o,o,o,o,o,o,z,o,o,o,o,o,z,z,z,z,z,z,z,z,z,z,z,z,z,z,z,z,z,z,z]
def q21_20 : Array Bool := let o := true; let z := false; #[o,o,o,o,o,o,o,o,o,o,o,o,o,o,o,o,o,o,o,o,z,z,z,z,z,z,z,z,z,z,z,z,z,z,z,z,z,z,z]
def q21_21 : Array Bool := let o := true; let z := false; #[o,o,o,o,o,o,o,o,o,o,o,o,o,o,o,o,o,o,o,o,o,z,z,z,z,z,z,z,z,z,z,z,z,z,z,z,z,z,z]
def q21_22 : Array Bool := let o := true; let z := false; #[o,o,o,o,o,o,o,o,o,o,o,o,o,o,o,o,o,o,o,o,o,o,z,z,z,z,z,z,z,z,z,z,z,z,z,z,z,z,z]
def q21_23 : Array Bool := let o := true; let z := false; #[o,o,o,o,o,o,o,o,o,o,o,o,o,o,o,o,o,o,o,o,o,o,o,z,z,z,z,z,z,z,z,z,z,z,z,z,z,z,z]
def q21_24 : Array Bool := let o := true; let z := false; #[o,o,o,o,o,o,o,o,o,o,o,o,o,o,o,o,o,o,o,o,o,o,o,o,z,z,z,z,z,z,z,z,z,z,z,z,z,z,z]
def q21_25 : Array Bool := let o := true; let z := false; #[o,o,o,o,o,o,o,o,o,o,o,o,o,o,o,o,o,o,o,o,o,o,o,o,o,z,z,z,z,z,z,z,z,z,z,z,z,z,z]
def q21_26 : Array Bool := let o := true; let z := false; #[o,o,o,o,o,o,o,o,o,o,o,o,o,o,o,o,o,o,o,o,o,o,o,o,o,o,z,z,z,z,z,z,z,z,z,z,z,z,z]
def q21_27 : Array Bool := let o := true; let z := false; #[o,o,o,o,o,o,o,o,o,o,o,o,o,o,o,o,o,o,o,o,o,o,o,o,o,o,o,z,z,z,z,z,z,z,z,z,z,z,z]
def q21_28 : Array Bool := let o := true; let z := false; #[o,o,o,o,o,o,o,o,o,o,o,o,o,o,o,o,o,o,o,o,o,o,o,o,o,o,o,o,z,z,z,z,z,z,z,z,z,z,z]
def q21_29 : Array Bool := let o := true; let z := false; #[o,o,o,o,o,o,o,o,o,o,o,o,o,o,o,o,o,o,o,o,o,o,o,o,o,o,o,o,o,z,z,z,z,z,z,z,z,z,z]
def q21_30 : Array Bool := let o := true; let z := false; #[o,o,o,o,o,o,o,o,o,o,o,o,o,o,o,o,o,o,o,o,o,o,o,o,o,o,o,o,o,o,z,z,z,z,z,z,z,z,z]
def q21_31 : Array Bool := let o := true; let z := false; #[o,o,o,o,o,o,o,o,o,o,o,o,o,o,o,o,o,o,o,o,o,o,o,o,o,o,o,o,o,o,o,z,z,z,z,z,z,z,z]
def q21_32 : Array Bool := let o := true; let z := false; #[o,o,o,o,o,o,o,o,o,o,o,o,o,o,o,o,o,o,o,o,o,o,o,o,o,o,o,o,o,o,o,o,z,z,z,z,z,z,z]
def q21_33 : Array Bool := let o := true; let z := false; #[o,o,o,o,o,o,o,o,o,o,o,o,o,o,o,o,o,o,o,o,o,o,o,o,o,o,o,o,o,o,o,o,o,z,z,z,z,z,z]
def q21_34 : Array Bool := let o := true; let z := false; #[o,o,o,o,o,o,o,o,o,o,o,o,o,o,o,o,o,o,o,o,o,o,o,o,o,o,o,o,o,o,o,o,o,o,z,z,z,z,z]
def q21_35 : Array Bool := let o := true; let z := false; #[o,o,o,o,o,o,o,o,o,o,o,o,o,o,o,o,o,o,o,o,o,o,o,o,o,o,o,o,o,o,o,o,o,o,o,z,z,z,z]
def q21_36 : Array Bool := let o := true; let z := false; #[o,o,o,o,o,o,o,o,o,o,o,o,o,o,o,o,o,o,o,o,o,o,o,o,o,o,o,o,o,o,o,o,o,o,o,o,z,z,z]
def q21_37 : Array Bool := let o := true; let z := false; #[o,o,o,o,o,o,o,o,o,o,o,o,o,o,o,o,o,o,o,o,o,o,o,o,o,o,o,o,o,o,o,o,o,o,o,o,o,z,z]
def q21_38 : Array Bool := let o := true; let z := false; #[o,o,o,o,o,o,o,o,o,o,o,o,o,o,o,o,o,o,o,o,o,o,o,o,o,o,o,o,o,o,o,o,o,o,o,o,o,o,z]
def q21_39 : Array Bool := let o := true; let z := false; #[o,o,o,o,o,o,o,o,o,o,o,o,o,o,o,o,o,o,o,o,o,o,o,o,o,o,o,o,o,o,o,o,o,o,o,o,o,o,o]
/-! ### shuttlecocklaw07_TableTells: function 3 -/
def shuttlecocklaw07_TableTells.j0 : Nat → ByteArray → Bool → List ByteArray → List (List (S70)) → List Int → List Int → Option (Bool)
 | 0, _, _, _, _, _, _ => none
 | k + 1, x2, x32, x387000, x387001, x388000, x388001 => if x32 = true then ((shuttlecocklaw07_fixed.f k).bind fun t389 => (some t389)) else ((table_Decode.f k x2).bind fun bt390 => ((shuttlecockref07_Decode.f k x2).bind fun bt399 => ((shuttlecocklaw07_fixed.f k).bind fun t408 => (if t408 = true then ((table_Encode.f k x387000 x387001).bind fun t409 => ((shuttlecockref07_Encode.f k x387000 x387001).bind fun t410 => (if t409.toList = t410.toList then ((table_Order.f k x387000 x387001 x388000 x388001).bind fun t411 => ((shuttlecockref07_Order.f k x387000 x387001 x388000 x388001).bind fun t412 => (if t411.toList = t412.toList then ((shuttlecockref06_Same.f k bt390.1 bt390.2.1 bt399.1 bt399.2.1).bind fun t413 => (if t413 = true then (if bt390.2.2.1 = bt399.2.2.1 then (some (bt390.2.2.2 == bt399.2.2.2)) else (none)) else (none))) else (none)))) else (none)))) else (none)))))
def shuttlecocklaw07_TableTells.f (k : Nat) (l0_0 : List ByteArray) (l0_1 : List (List (S70))) (l1_0 : List Int) (l1_1 : List Int) (a2 : ByteArray) : Option (Bool) := (shuttlecockref06_Small.f k l0_0 l0_1).bind fun t388 => (if t388 = true then (if (a2.size : Int) > 2000 then (shuttlecocklaw07_TableTells.j0 k a2 true l0_0 l0_1 l1_0 l1_1) else (if (l1_0.length : Int) > 60 then (shuttlecocklaw07_TableTells.j0 k a2 true l0_0 l0_1 l1_0 l1_1) else (shuttlecocklaw07_TableTells.j0 k a2 (decide ((l1_1.length : Int) > 60)) l0_0 l0_1 l1_0 l1_1))) else (shuttlecocklaw07_TableTells.j0 k a2 true l0_0 l0_1 l1_0 l1_1))
theorem shuttlecocklaw07_TableTells.mono_l : ∀ k, (∀ y0 y1 y2 y3 y4 y5, LeO (shuttlecocklaw07_TableTells.j0 k y0 y1 y2 y3 y4 y5) (shuttlecocklaw07_TableTells.j0 (k + 1) y0 y1 y2 y3 y4 y5))
 | 0 => fun _ _ _ _ _ _ r h => by simp [shuttlecocklaw07_TableTells.j0] at h
 | k + 1 => by
  have ih0 := shuttlecocklaw07_TableTells.mono_l k
  ·
   intro y0 y1 y2 y3 y4 y5
   unfold shuttlecocklaw07_TableTells.j0
   repeat' first
   | (with_reducible exact ih0 _ _ _ _ _ _)
   | (with_reducible exact shuttlecocklaw07_fixed.mono _)
   | (with_reducible exact shuttlecockref06_Same.mono _ _ _ _ _)
   | (with_reducible exact shuttlecockref06_Small.mono _ _ _)
   | (with_reducible exact shuttlecockref07_Decode.mono _ _)
   | (with_reducible exact shuttlecockref07_Encode.mono _ _ _)
   | (with_reducible exact shuttlecockref07_Order.mono _ _ _ _ _)
   | (with_reducible exact table_Decode.mono _ _)
   | (with_reducible exact table_Encode.mono _ _ _)
   | (with_reducible exact table_Order.mono _ _ _ _ _)
   | (with_reducible exact LeO.refl _)
   | (with_reducible exact LeO.none _)
   | (with_reducible refine LeO.ite ?_ ?_)
   | (with_reducible refine LeO.bind ?_ (fun _ => ?_))
   | exact LeO.none _
   | refine LeO.ite ?_ ?_
   | refine LeO.bind ?_ (fun _ => ?_)
theorem shuttlecocklaw07_TableTells.mono : ∀ a0 a1 a2 a3 a4 k, LeO (shuttlecocklaw07_TableTells.f k a0 a1 a2 a3 a4) (shuttlecocklaw07_TableTells.f (k + 1) a0 a1 a2 a3 a4) := by
 intro a0 a1 a2 a3 a4 k
 have ih0 := shuttlecocklaw07_TableTells.mono_l k
 unfold shuttlecocklaw07_TableTells.f
 repeat' first
   | (with_reducible exact ih0 _ _ _ _ _ _)
   | (with_reducible exact shuttlecocklaw07_fixed.mono _)
   | (with_reducible exact shuttlecockref06_Same.mono _ _ _ _ _)
   | (with_reducible exact shuttlecockref06_Small.mono _ _ _)
   | (with_reducible exact shuttlecockref07_Decode.mono _ _)
   | (with_reducible exact shuttlecockref07_Encode.mono _ _ _)
   | (with_reducible exact shuttlecockref07_Order.mono _ _ _ _ _)
   | (with_reducible exact table_Decode.mono _ _)
   | (with_reducible exact table_Encode.mono _ _ _)
   | (with_reducible exact table_Order.mono _ _ _ _ _)
   | (with_reducible exact LeO.refl _)
   | (with_reducible exact LeO.none _)
   | (with_reducible refine LeO.ite ?_ ?_)
   | (with_reducible refine LeO.bind ?_ (fun _ => ?_))
   | exact LeO.none _
   | refine LeO.ite ?_ ?_
   | refine LeO.bind ?_ (fun _ => ?_)
def shuttlecocklaw07_TableTells.T5 : Bool × List (List Nat × List Nat) := (true, [([], []), ([0, 0], [0]), ([1], [1]), ([2, 1, 1], [1, 2]), ([1], [1]), ([4, 3, 1], [1, 4]), ([3, 5, 1], [1, 3, 5]), ([1, 6], [1, 6]), ([7, 5], [7]), ([8], [8]), ([8], [8]), ([10, 8], [8, 10]), ([8], [8]), ([12, 8], [8, 12]), ([9, 11, 13, 8, 8], [8, 9, 11, 13]), ([8], [8]), ([8], [8]), ([16, 8], [8, 16]), ([8], [8]), ([18, 8], [8, 18]), ([15, 17, 19, 14, 8], [8, 15, 17, 19]), ([14, 20, 8], [8, 14, 20]), ([8, 21], [8, 21]), ([22, 20], [22]), ([23], [23]), ([23], [23]), ([24, 25, 23, 23], [23, 24, 25]), ([23, 26], [23, 26]), ([27, 26], [27]), ([28], [28]), ([28], [28]), ([29, 30, 28], [28, 29, 30]), ([28, 31], [28, 31]), ([32, 28], [32]), ([33], [33]), ([33], [33]), ([34, 35, 33], [33, 34, 35]), ([33, 36], [33, 36]), ([37, 33, 0, 1, 2, 3, 4, 5, 6, 7, 8, 9, 10, 11, 12, 13, 14, 15, 16, 17, 18, 19, 20, 21, 22, 23, 24, 25, 26, 27, 28, 29, 30, 31, 32, 33, 34, 35, 36, 37], [37])])
def shuttlecocklaw07_TableTells.B5 : List Nat := [0, 1, 3, 7, 3, 31, 63, 127, 255, 511, 511, 1535, 511, 4607, 16383, 511, 511, 66047, 511, 262655, 1048575, 2097151, 4194303, 8388607, 16777215, 16777215, 67108863, 134217727, 268435455, 536870911, 536870911, 2147483647, 4294967295, 8589934591, 17179869183, 17179869183, 68719476735, 137438953471, 274877906943]
theorem shuttlecocklaw07_TableTells.tab5 : rtab .any (opsOf Try.f3 5) = shuttlecocklaw07_TableTells.T5 := by kernel_rfl
theorem shuttlecocklaw07_TableTells.bits5 : waitsOk shuttlecocklaw07_TableTells.T5.2 shuttlecocklaw07_TableTells.B5 = true := by kernel_rfl
set_option maxHeartbeats 8000000 in
set_option maxRecDepth 100000 in
theorem shuttlecocklaw07_TableTells.calls (k : Nat) (A0_0 : Option Addr) (c0_0 : Nat) (l0_0 : List ByteArray) (A0_1 : Option Addr) (c0_1 : Nat) (l0_1 : List (List (S70))) (A1_0 : Option Addr) (c1_0 : Nat) (l1_0 : List Int) (A1_1 : Option Addr) (c1_1 : Nat) (l1_1 : List Int) (a2 : ByteArray) (r : Bool) (w : World) (hr0_0 : Kd.C Kd.string w A0_0 l0_0.length l0_0) (hc0_0 : l0_0.length ≤ c0_0) (hr0_1 : Kd.C (Kd.slice 70 k70) w A0_1 l0_1.length l0_1) (hc0_1 : l0_1.length ≤ c0_1) (hr1_0 : Kd.C (Kd.int .i64) w A1_0 l1_0.length l1_0) (hc1_0 : l1_0.length ≤ c1_0) (hr1_1 : Kd.C (Kd.int .i64) w A1_1 l1_1.length l1_1) (hc1_1 : l1_1.length ≤ c1_1) (h : shuttlecocklaw07_TableTells.f k l0_0 l0_1 l1_0 l1_1 a2 = some r) :
  Calls Try.prog 3 #[.agg #[.slice A0_0 l0_0.length c0_0, .slice A0_1 l0_1.length c0_1], .agg #[.slice A1_0 l1_0.length c1_0, .slice A1_1 l1_1.length c1_1], .string a2] w fun e w' => e = .returned (.bool r) ∧ Below w.heap.size w w' := by
 have hu25 := Try.underlying25
 have hu28 := Try.underlying28
 have HR0_0 := Am hr0_0
 have HC0_0 := Am hc0_0
 clear hr0_0 hc0_0
 have HR0_1 := Am hr0_1
 have HC0_1 := Am hc0_1
 clear hr0_1 hc0_1
 have HR1_0 := Am hr1_0
 have HC1_0 := Am hc1_0
 clear hr1_0 hc1_0
 have HR1_1 := Am hr1_1
 have HC1_1 := Am hc1_1
 clear hr1_1 hc1_1
 have HB := Am (Below.refl w.heap.size w)
 have H : ((shuttlecockref06_Small.f k l0_0 l0_1).bind fun t388 => (if t388 = true then (if (a2.size : Int) > 2000 then (shuttlecocklaw07_TableTells.j0 k a2 true l0_0 l0_1 l1_0 l1_1) else (if (l1_0.length : Int) > 60 then (shuttlecocklaw07_TableTells.j0 k a2 true l0_0 l0_1 l1_0 l1_1) else (shuttlecocklaw07_TableTells.j0 k a2 (decide ((l1_1.length : Int) > 60)) l0_0 l0_1 l1_0 l1_1))) else (shuttlecocklaw07_TableTells.j0 k a2 true l0_0 l0_1 l1_0 l1_1))) = some r := h
 clear h
 have HC4 := Am H
 clear H
 go_enter Try.func3, Try.ntmps3
 go_upto_region 1 with (first | ((with_reducible refine gate_dst (N := 3) rfl ?_); (try (refine gate_guard (by rfl) ?_; dsimp only)); refine box_event ?hg (N := 3) ?hd (cs := #[.slice A0_0 l0_0.length c0_0, .slice A0_1 l0_1.length c0_1]) (t := 25) ?hr ?_; (case hd => rfl); (case hg => rfl); (case hr => first | (go_simp; done) | (go_simp; rfl)); intro gb386 hg w5 hbox hb; have BK386 := Am (hbox); have GW386 := Am ((by rw [hg]; exact (below_size (z3)) : w.heap.size ≤ gb386)); have GE386 := GW386; replace HB := Am (below_step (z3) hb); clear hb hbox hg) | ((with_reducible refine gate_dst (N := 4) rfl ?_); (try (refine gate_guard (by rfl) ?_; dsimp only)); refine box_event ?hg (N := 4) ?hd (cs := #[.slice A1_0 l1_0.length c1_0, .slice A1_1 l1_1.length c1_1]) (t := 28) ?hr ?_; (case hd => rfl); (case hg => rfl); (case hr => first | (go_simp; done) | (go_simp; rfl)); intro gb387 hg w6 hbox hb; have BK387 := Am (hbox); have GW387 := Am ((by rw [hg]; exact (below_size (z22)) : w.heap.size ≤ gb387)); have GE387 := GW387; have NB386_387 := Am ((by rw [hg]; exact Nat.ne_of_lt (blk_lt (g := gb386) (o := .cells #[.slice A0_0 l0_0.length c0_0, .slice A0_1 l0_1.length c0_1] 25 (0, 0)) (by (with_reducible repeat (first|apply bn|apply bd|apply ba)); exact BK386.out)) : gb386 ≠ gb387)); have NB387_386 := Am NB386_387.out.symm; replace BK386 := Am (blk_below (g := gb386) (o := .cells #[.slice A0_0 l0_0.length c0_0, .slice A0_1 l0_1.length c0_1] 25 (0, 0)) (by (with_reducible repeat (first|apply bn|apply bd|apply ba)); exact BK386.out) hb); replace HB := Am (below_step (z22) hb); clear hb hbox hg))
 (try simp only [Act.put, sI, sZ, sS])
 go_cut [32] (fun v32 wc => ∃ (kq : Nat) (x32_3 : Bool), v32 = .bool x32_3 ∧ Aside0 (shuttlecocklaw07_TableTells.j0 kq a2 x32_3 l0_0 l0_1 l1_0 l1_1 = some r) ∧ Aside0 (kq ≤ k) ∧ Aside0 (wc.heap[gb386]? = some (.cells #[(.slice A0_0 l0_0.length c0_0), (.slice A0_1 l0_1.length c0_1)] 25 (0, 0))) ∧ Aside0 (wc.heap[gb387]? = some (.cells #[(.slice A1_0 l1_0.length c1_0), (.slice A1_1 l1_1.length c1_1)] 28 (0, 0))) ∧ Aside0 (Below w.heap.size w wc))
 case first =>
  have H := HC4.out
  clear HC4
  replace H := ob H
  obtain ⟨t388, A70, H⟩ := H
  (try dsimp only at H)
  have A7 := Am A70
  clear A70
  by_cases c8 : t388 = true
  ·
   subst c8
   rw [if_pos rfl] at H
   by_cases c9 : (a2.size : Int) > 2000
   ·
    rw [if_pos c9] at H
    have c9b0 : decide (2000 < (a2.size : Int)) = true := decide_eq_true c9
    have c9b1 : decide (2000 < a2.size) = true := decide_eq_true (by omega)
    clear c9
    (first | rw [c9b0] | (simp only [i64_w, i32_w]; rw [c9b0]) | skip)
    have H' := Am H
    clear H
    have hnb10 := NB386_387.out
    have hnc10 := NB387_386.out
    have hcz11_0 := Own.bc2 BK386.out 0
    have hcz11_1 := Own.bc2 BK386.out 1
    have hfz11_0 := bf BK386.out 0
    have hfz11_1 := bf BK386.out 1
    go_wp2_with (first | ((with_reducible refine gate_callee (f := 7) rfl ?_); refine Own.gL_ (some 14) Try.func7 (#[.agg #[.slice A0_0 l0_0.length c0_0, .slice A0_1 l0_1.length c0_1]]) (h := ?_); (with_reducible refine (shuttlecockref06_Small.calls k _ _ l0_0 _ _ l0_1 true _ ?side1 ?side2 ?side3 ?side4 A7.out).mono ?_); (case side1 => repeat (first | exact (Kd.C_below HR0_0.out HB.out) | (with_reducible refine Kd.C_alloc ?_ _) | (with_reducible refine Kd.C_drewN ?_ _) | (with_reducible refine Kd.C_drew ?_))); (case side2 => exact HC0_0.out); (case side3 => repeat (first | exact (Kd.C_below HR0_1.out HB.out) | (with_reducible refine Kd.C_alloc ?_ _) | (with_reducible refine Kd.C_drewN ?_ _) | (with_reducible refine Kd.C_drew ?_))); (case side4 => exact HC0_1.out); rintro e w12 ⟨rfl, hb⟩; refine ⟨_, rfl, ?_⟩; replace BK386 := Am (blk_below (g := gb386) (o := .cells #[.slice A0_0 l0_0.length c0_0, .slice A0_1 l0_1.length c0_1] 25 (0, 0)) (by (with_reducible repeat (first|apply bn|apply bd|apply ba)); exact BK386.out) hb); replace BK387 := Am (blk_below (g := gb387) (o := .cells #[.slice A1_0 l1_0.length c1_0, .slice A1_1 l1_1.length c1_1] 28 (0, 0)) (by (with_reducible repeat (first|apply bn|apply bd|apply ba)); exact BK387.out) hb); replace HB := Am (below_step (z10) hb); clear hb))
    go_meet
    case rel => exact ⟨_, (true), (by first | rfl | (simp; done) | (simp [*]; done) | (simp; generalize ByteArray.toList _ = l_; cases l_ <;> rfl)), H', ⟨by first | omega | exact Nat.le_refl _⟩, ⟨by (with_reducible repeat (first|apply bn|apply bd|apply ba)); exact BK386.out⟩, ⟨by (with_reducible repeat (first|apply bn|apply bd|apply ba)); exact BK387.out⟩, ⟨z10⟩⟩
   ·
    rw [if_neg c9] at H
    have c9b0 : decide (2000 < (a2.size : Int)) = false := decide_eq_false c9
    have c9b1 : decide (2000 < a2.size) = false := decide_eq_false (by omega)
    clear c9
    (first | rw [c9b0] | (simp only [i64_w, i32_w]; rw [c9b0]) | skip)
    by_cases c13 : (l1_0.length : Int) > 60
    ·
     rw [if_pos c13] at H
     have c13b0 : decide (60 < (l1_0.length : Int)) = true := decide_eq_true c13
     have c13b1 : decide (60 < l1_0.length) = true := decide_eq_true (by omega)
     clear c13
     have H' := Am H
     clear H
     have hnb14 := NB386_387.out
     have hnc14 := NB387_386.out
     have hcz15_0 := Own.bc2 BK386.out 0
     have hcz15_1 := Own.bc2 BK386.out 1
     have hfz15_0 := bf BK386.out 0
     have hfz15_1 := bf BK386.out 1
     go_wp2_with (first | ((with_reducible refine gate_callee (f := 7) rfl ?_); refine Own.gL_ (some 14) Try.func7 (#[.agg #[.slice A0_0 l0_0.length c0_0, .slice A0_1 l0_1.length c0_1]]) (h := ?_); (with_reducible refine (shuttlecockref06_Small.calls k _ _ l0_0 _ _ l0_1 true _ ?side1 ?side2 ?side3 ?side4 A7.out).mono ?_); (case side1 => repeat (first | exact (Kd.C_below HR0_0.out HB.out) | (with_reducible refine Kd.C_alloc ?_ _) | (with_reducible refine Kd.C_drewN ?_ _) | (with_reducible refine Kd.C_drew ?_))); (case side2 => exact HC0_0.out); (case side3 => repeat (first | exact (Kd.C_below HR0_1.out HB.out) | (with_reducible refine Kd.C_alloc ?_ _) | (with_reducible refine Kd.C_drewN ?_ _) | (with_reducible refine Kd.C_drew ?_))); (case side4 => exact HC0_1.out); rintro e w16 ⟨rfl, hb⟩; refine ⟨_, rfl, ?_⟩; replace BK386 := Am (blk_below (g := gb386) (o := .cells #[.slice A0_0 l0_0.length c0_0, .slice A0_1 l0_1.length c0_1] 25 (0, 0)) (by (with_reducible repeat (first|apply bn|apply bd|apply ba)); exact BK386.out) hb); replace BK387 := Am (blk_below (g := gb387) (o := .cells #[.slice A1_0 l1_0.length c1_0, .slice A1_1 l1_1.length c1_1] 28 (0, 0)) (by (with_reducible repeat (first|apply bn|apply bd|apply ba)); exact BK387.out) hb); replace HB := Am (below_step (z10) hb); clear hb; have hcz17_0 := Own.bc2 BK387.out 0; have hcz17_1 := Own.bc2 BK387.out 1; have hfz17_0 := bf BK387.out 0; have hfz17_1 := bf BK387.out 1))
     go_meet
     case rel => exact ⟨_, (true), (by first | rfl | (simp; done) | (simp [*]; done) | (simp; generalize ByteArray.toList _ = l_; cases l_ <;> rfl)), H', ⟨by first | omega | exact Nat.le_refl _⟩, ⟨by (with_reducible repeat (first|apply bn|apply bd|apply ba)); exact BK386.out⟩, ⟨by (with_reducible repeat (first|apply bn|apply bd|apply ba)); exact BK387.out⟩, ⟨z10⟩⟩
    ·
     rw [if_neg c13] at H
     have c13b0 : decide (60 < (l1_0.length : Int)) = false := decide_eq_false c13
     have c13b1 : decide (60 < l1_0.length) = false := decide_eq_false (by omega)
     clear c13
     have H' := Am H
     clear H
     have hnb18 := NB386_387.out
     have hnc18 := NB387_386.out
     have hcz19_0 := Own.bc2 BK386.out 0
     have hcz19_1 := Own.bc2 BK386.out 1
     have hfz19_0 := bf BK386.out 0
     have hfz19_1 := bf BK386.out 1
     go_wp2_with (first | ((with_reducible refine gate_callee (f := 7) rfl ?_); refine Own.gL_ (some 14) Try.func7 (#[.agg #[.slice A0_0 l0_0.length c0_0, .slice A0_1 l0_1.length c0_1]]) (h := ?_); (with_reducible refine (shuttlecockref06_Small.calls k _ _ l0_0 _ _ l0_1 true _ ?side1 ?side2 ?side3 ?side4 A7.out).mono ?_); (case side1 => repeat (first | exact (Kd.C_below HR0_0.out HB.out) | (with_reducible refine Kd.C_alloc ?_ _) | (with_reducible refine Kd.C_drewN ?_ _) | (with_reducible refine Kd.C_drew ?_))); (case side2 => exact HC0_0.out); (case side3 => repeat (first | exact (Kd.C_below HR0_1.out HB.out) | (with_reducible refine Kd.C_alloc ?_ _) | (with_reducible refine Kd.C_drewN ?_ _) | (with_reducible refine Kd.C_drew ?_))); (case side4 => exact HC0_1.out); rintro e w20 ⟨rfl, hb⟩; refine ⟨_, rfl, ?_⟩; replace BK386 := Am (blk_below (g := gb386) (o := .cells #[.slice A0_0 l0_0.length c0_0, .slice A0_1 l0_1.length c0_1] 25 (0, 0)) (by (with_reducible repeat (first|apply bn|apply bd|apply ba)); exact BK386.out) hb); replace BK387 := Am (blk_below (g := gb387) (o := .cells #[.slice A1_0 l1_0.length c1_0, .slice A1_1 l1_1.length c1_1] 28 (0, 0)) (by (with_reducible repeat (first|apply bn|apply bd|apply ba)); exact BK387.out) hb); replace HB := Am (below_step (z10) hb); clear hb; have hcz21_0 := Own.bc2 BK387.out 0; have hcz21_1 := Own.bc2 BK387.out 1; have hfz21_0 := bf BK387.out 0; have hfz21_1 := bf BK387.out 1))
     go_meet
     case rel => exact ⟨_, (decide ((l1_1.length : Int) > 60)), (by first | rfl | (simp; done) | (simp [*]; done) | (simp; generalize ByteArray.toList _ = l_; cases l_ <;> rfl)), H', ⟨by first | omega | exact Nat.le_refl _⟩, ⟨by (with_reducible repeat (first|apply bn|apply bd|apply ba)); exact BK386.out⟩, ⟨by (with_reducible repeat (first|apply bn|apply bd|apply ba)); exact BK387.out⟩, ⟨z10⟩⟩
  ·
   replace c8 := Bool.eq_false_iff.mpr c8
   subst c8
   rw [if_neg (show ¬ (false = true) by decide)] at H
   have H' := Am H
   clear H
   have hnb22 := NB386_387.out
   have hnc22 := NB387_386.out
   have hcz23_0 := Own.bc2 BK386.out 0
   have hcz23_1 := Own.bc2 BK386.out 1
   have hfz23_0 := bf BK386.out 0
   have hfz23_1 := bf BK386.out 1
   go_wp2_with (first | ((with_reducible refine gate_callee (f := 7) rfl ?_); refine Own.gL_ (some 14) Try.func7 (#[.agg #[.slice A0_0 l0_0.length c0_0, .slice A0_1 l0_1.length c0_1]]) (h := ?_); (with_reducible refine (shuttlecockref06_Small.calls k _ _ l0_0 _ _ l0_1 false _ ?side1 ?side2 ?side3 ?side4 A7.out).mono ?_); (case side1 => repeat (first | exact (Kd.C_below HR0_0.out HB.out) | (with_reducible refine Kd.C_alloc ?_ _) | (with_reducible refine Kd.C_drewN ?_ _) | (with_reducible refine Kd.C_drew ?_))); (case side2 => exact HC0_0.out); (case side3 => repeat (first | exact (Kd.C_below HR0_1.out HB.out) | (with_reducible refine Kd.C_alloc ?_ _) | (with_reducible refine Kd.C_drewN ?_ _) | (with_reducible refine Kd.C_drew ?_))); (case side4 => exact HC0_1.out); rintro e w24 ⟨rfl, hb⟩; refine ⟨_, rfl, ?_⟩; replace BK386 := Am (blk_below (g := gb386) (o := .cells #[.slice A0_0 l0_0.length c0_0, .slice A0_1 l0_1.length c0_1] 25 (0, 0)) (by (with_reducible repeat (first|apply bn|apply bd|apply ba)); exact BK386.out) hb); replace BK387 := Am (blk_below (g := gb387) (o := .cells #[.slice A1_0 l1_0.length c1_0, .slice A1_1 l1_1.length c1_1] 28 (0, 0)) (by (with_reducible repeat (first|apply bn|apply bd|apply ba)); exact BK387.out) hb); replace HB := Am (below_step (z10) hb); clear hb))
   go_meet
   case rel => exact ⟨_, (true), (by first | rfl | (simp; done) | (simp [*]; done) | (simp; generalize ByteArray.toList _ = l_; cases l_ <;> rfl)), H', ⟨by first | omega | exact Nat.le_refl _⟩, ⟨by (with_reducible repeat (first|apply bn|apply bd|apply ba)); exact BK386.out⟩, ⟨by (with_reducible repeat (first|apply bn|apply bd|apply ba)); exact BK387.out⟩, ⟨z10⟩⟩
 case rest =>
  clear HC4
  try clear c1
  try clear c2
  try clear p2
  try clear c3
  try clear c7
  try clear c8
  try clear c9
  try clear c9b0
  try clear c9b1
  try clear c10
  try clear c13
  try clear c13b0
  try clear c13b1
  try clear c14
  try clear c18
  try clear c22
  try clear hcz11_0
  try clear hcz11_1
  try clear hcz15_0
  try clear hcz15_1
  try clear hcz17_0
  try clear hcz17_1
  try clear hcz19_0
  try clear hcz19_1
  try clear hcz21_0
  try clear hcz21_1
  try clear hcz23_0
  try clear hcz23_1
  try clear hfz11_0
  try clear hfz11_1
  try clear hfz15_0
  try clear hfz15_1
  try clear hfz17_0
  try clear hfz17_1
  try clear hfz19_0
  try clear hfz19_1
  try clear hfz21_0
  try clear hfz21_1
  try clear hfz23_0
  try clear hfz23_1
  obtain ⟨kq, x32_3, rfl, HA, HJ3, BK386, BK387, HB⟩ := hcut
  cases kq with
  | zero => exact absurd HA.out (by simp [shuttlecocklaw07_TableTells.j0])
  | succ kj3 =>
   have H := HA.out
   clear HA
   simp only [shuttlecocklaw07_TableTells.j0] at H
   by_cases c25 : x32_3 = true
   ·
    subst c25
    rw [if_pos rfl] at H
    replace H := ob H
    obtain ⟨t389, A260, H⟩ := H
    (try dsimp only at H)
    have A26 := Am A260
    clear A260
    obtain rfl := Option.some.inj H
    go_wp2_with (first | ((with_reducible refine gate_callee (f := 8) rfl ?_); refine Own.gL_ (some 33) Try.func8 (#[]) (h := ?_); (with_reducible refine (shuttlecocklaw07_fixed.calls kj3  t389 _ A26.out).mono ?_); rintro e w27 ⟨rfl, hb⟩; refine ⟨_, rfl, ?_⟩; replace BK386 := Am (blk_below (g := gb386) (o := .cells #[.slice A0_0 l0_0.length c0_0, .slice A0_1 l0_1.length c0_1] 25 (0, 0)) (by (with_reducible repeat (first|apply bn|apply bd|apply ba)); exact BK386.out) hb); replace BK387 := Am (blk_below (g := gb387) (o := .cells #[.slice A1_0 l1_0.length c1_0, .slice A1_1 l1_1.length c1_1] 28 (0, 0)) (by (with_reducible repeat (first|apply bn|apply bd|apply ba)); exact BK387.out) hb); replace HB := Am (below_step (z10) hb); clear hb))
    go_ret
    exact ⟨y0, z10⟩
   ·
    replace c25 := Bool.eq_false_iff.mpr c25
    subst c25
    rw [if_neg (show ¬ (false = true) by decide)] at H
    replace H := ob H
    obtain ⟨⟨t390, t393, t396, t397⟩, A280, H⟩ := H
    (try dsimp only at H)
    have A28 := Am A280
    clear A280
    replace H := ob H
    obtain ⟨⟨t399, t402, t405, t406⟩, A290, H⟩ := H
    (try dsimp only at H)
    have A29 := Am A290
    clear A290
    replace H := ob H
    obtain ⟨t408, A300, H⟩ := H
    (try dsimp only at H)
    have A30 := Am A300
    clear A300
    by_cases c31 : t408 = true
    ·
     subst c31
     rw [if_pos rfl] at H
     replace H := ob H
     obtain ⟨t409, A320, H⟩ := H
     (try dsimp only at H)
     have A32 := Am A320
     clear A320
     replace H := ob H
     obtain ⟨t410, A330, H⟩ := H
     (try dsimp only at H)
     have A33 := Am A330
     clear A330
     by_cases c34 : t409.toList = t410.toList
     ·
      rw [if_pos c34] at H
      have c34b0 : (t409.toList == t410.toList) = true := beq_iff_eq.mpr c34
      have c34b1 : (t409.toList != t410.toList) = false := bne_eq_false_iff_eq.mpr c34
      clear c34
      replace H := ob H
      obtain ⟨t411, A350, H⟩ := H
      (try dsimp only at H)
      have A35 := Am A350
      clear A350
      replace H := ob H
      obtain ⟨t412, A360, H⟩ := H
      (try dsimp only at H)
      have A36 := Am A360
      clear A360
      by_cases c37 : t411.toList = t412.toList
      ·
       rw [if_pos c37] at H
       have c37b0 : (t411.toList == t412.toList) = true := beq_iff_eq.mpr c37
       have c37b1 : (t411.toList != t412.toList) = false := bne_eq_false_iff_eq.mpr c37
       clear c37
       replace H := ob H
       obtain ⟨t413, A380, H⟩ := H
       (try dsimp only at H)
       have A38 := Am A380
       clear A380
       by_cases c39 : t413 = true
       ·
        subst c39
        rw [if_pos rfl] at H
        by_cases c40 : t396 = t405
        ·
         rw [if_pos c40] at H
         have c40b0 : (t396 == t405) = true := beq_iff_eq.mpr c40
         have c40b1 : (t396 != t405) = false := bne_eq_false_iff_eq.mpr c40
         clear c40
         obtain rfl := Option.some.inj H
         try go_wp2_with (first | ((with_reducible refine gate_callee (f := 9) rfl ?_); refine Own.gL_ (some 36) Try.func9 (#[.string a2]) (h := ?_); (with_reducible refine (table_Decode.calls kj3 a2 t390 t393 t396 t397 _ A28.out).mono ?_); rintro e w41 ⟨v391, v394, rfl, ho0, ho1, hb⟩; refine ⟨_, rfl, ?_⟩; have HO392 := Am (Kd.R_lower ho0 (below_size (z10))); have HO395 := Am (Kd.S_lower ho1 (below_size (z10))); replace BK386 := Am (blk_below (g := gb386) (o := .cells #[.slice A0_0 l0_0.length c0_0, .slice A0_1 l0_1.length c0_1] 25 (0, 0)) (by (with_reducible repeat (first|apply bn|apply bd|apply ba)); exact BK386.out) hb); replace BK387 := Am (blk_below (g := gb387) (o := .cells #[.slice A1_0 l1_0.length c1_0, .slice A1_1 l1_1.length c1_1] 28 (0, 0)) (by (with_reducible repeat (first|apply bn|apply bd|apply ba)); exact BK387.out) hb); replace HB := Am (below_step (z10) hb); (try clear hb); (try clear hb2); (try clear hk); (try clear hi); (try clear ho0); (try clear ho1)) | ((with_reducible refine gate_dst (N := 7) rfl ?_); (try (refine gate_guard (by rfl) ?_; dsimp only)); refine box_event ?hg (N := 7) ?hd (cs := #[.slice none 0 0, .slice none 0 0]) (t := 25) ?hr ?_; (case hd => rfl); (case hg => rfl); (case hr => first | (go_simp; done) | (go_simp; rfl)); intro gb398 hg w42 hbox hb; have BK398 := Am (hbox); have GW398 := Am ((by rw [hg]; exact (below_size (z10)) : w.heap.size ≤ gb398)); have GE398 := GW398; have NB386_398 := Am ((by rw [hg]; exact Nat.ne_of_lt (blk_lt (g := gb386) (o := .cells #[.slice A0_0 l0_0.length c0_0, .slice A0_1 l0_1.length c0_1] 25 (0, 0)) (by (with_reducible repeat (first|apply bn|apply bd|apply ba)); exact BK386.out)) : gb386 ≠ gb398)); have NB398_386 := Am NB386_398.out.symm; have NB387_398 := Am ((by rw [hg]; exact Nat.ne_of_lt (blk_lt (g := gb387) (o := .cells #[.slice A1_0 l1_0.length c1_0, .slice A1_1 l1_1.length c1_1] 28 (0, 0)) (by (with_reducible repeat (first|apply bn|apply bd|apply ba)); exact BK387.out)) : gb387 ≠ gb398)); have NB398_387 := Am NB387_398.out.symm; replace HO392 := Am (Kd.R_below (by (with_reducible repeat (first | apply Kd.R_alloc | apply Kd.R_drewN | apply Kd.R_drew)); exact HO392.out) hb); replace HO395 := Am (Kd.S_below (by (with_reducible repeat (first | apply Kd.S_alloc | apply Kd.S_drewN | apply Kd.S_drew)); exact HO395.out) hb); replace BK386 := Am (blk_below (g := gb386) (o := .cells #[.slice A0_0 l0_0.length c0_0, .slice A0_1 l0_1.length c0_1] 25 (0, 0)) (by (with_reducible repeat (first|apply bn|apply bd|apply ba)); exact BK386.out) hb); replace BK387 := Am (blk_below (g := gb387) (o := .cells #[.slice A1_0 l1_0.length c1_0, .slice A1_1 l1_1.length c1_1] 28 (0, 0)) (by (with_reducible repeat (first|apply bn|apply bd|apply ba)); exact BK387.out) hb); replace HB := Am (below_step (z10) hb); clear hb hbox hg; obtain ⟨Ao43, co43, eo43⟩ := Kd.R_slice HO392.out; subst eo43; have hnb44 := NB398_386.out; have hnc44 := NB386_398.out; have hnb45 := NB398_387.out; have hnc45 := NB387_398.out; have hcz46_0 := Own.bc2 BK398.out 0; have hcz46_1 := Own.bc2 BK398.out 1; have hfz46_0 := bf BK398.out 0; have hfz46_1 := bf BK398.out 1; obtain ⟨Ao47, co47, eo47⟩ := Kd.S_slice HO395.out; subst eo47) | ((with_reducible refine gate_callee (f := 10) rfl ?_); refine Own.gL_ (some 42) Try.func10 (#[.string a2]) (h := ?_); (with_reducible refine (shuttlecockref07_Decode.calls kj3 a2 t399 t402 t405 t406 _ A29.out).mono ?_); rintro e w48 ⟨v400, v403, rfl, ho0, ho1, hb⟩; refine ⟨_, rfl, ?_⟩; have HO401 := Am (Kd.R_lower (Kd.R_new' ho0 (Kd.R_lt (by (with_reducible repeat (first | apply Kd.R_alloc | apply Kd.R_drewN | apply Kd.R_drew)); exact (Kd.R_mono (Kd.R_far (p := ⟨gb398, 1, none⟩) (Kd.R_far (p := ⟨gb398, 0, none⟩) (Kd.R_types HO392.out BK398.out (by decide)) (fun _ hk => hk.2) (.slice Ao43 t390.length co43)) (fun _ hk => hk.2) (.slice Ao47 t393.length co47)) (fun _ h_ => h_.1))))) (below_size (z17))); have HO404 := Am (Kd.S_lower (Kd.S_new' ho1 (Kd.S_lt (by (with_reducible repeat (first | apply Kd.S_alloc | apply Kd.S_drewN | apply Kd.S_drew)); exact (Kd.S_mono (Kd.S_far (p := ⟨gb398, 1, none⟩) (Kd.S_far (p := ⟨gb398, 0, none⟩) (Kd.S_types HO395.out BK398.out (by decide)) (fun _ hk => hk.2) (.slice Ao43 t390.length co43)) (fun _ hk => hk.2) (.slice Ao47 t393.length co47)) (fun _ h_ => h_.1))))) (below_size (z17))); replace HO392 := Am (Kd.R_elder' (by (with_reducible repeat (first | apply Kd.R_alloc | apply Kd.R_drewN | apply Kd.R_drew)); exact (Kd.R_mono (Kd.R_far (p := ⟨gb398, 1, none⟩) (Kd.R_far (p := ⟨gb398, 0, none⟩) (Kd.R_types HO392.out BK398.out (by decide)) (fun _ hk => hk.2) (.slice Ao43 t390.length co43)) (fun _ hk => hk.2) (.slice Ao47 t393.length co47)) (fun _ h_ => h_.1))) (Kd.R_base ho0) hb); replace HO395 := Am (Kd.S_elder' (by (with_reducible repeat (first | apply Kd.S_alloc | apply Kd.S_drewN | apply Kd.S_drew)); exact (Kd.S_mono (Kd.S_far (p := ⟨gb398, 1, none⟩) (Kd.S_far (p := ⟨gb398, 0, none⟩) (Kd.S_types HO395.out BK398.out (by decide)) (fun _ hk => hk.2) (.slice Ao43 t390.length co43)) (fun _ hk => hk.2) (.slice Ao47 t393.length co47)) (fun _ h_ => h_.1))) (Kd.S_base ho1) hb); replace BK386 := Am (blk_below (g := gb386) (o := .cells #[.slice A0_0 l0_0.length c0_0, .slice A0_1 l0_1.length c0_1] 25 (0, 0)) (by (with_reducible repeat (first|apply bn|apply bd|apply ba)); refine blk_far ?_ NB386_398.out _; (with_reducible repeat (first|apply bn|apply bd|apply ba)); refine blk_far ?_ NB386_398.out _; (with_reducible repeat (first|apply bn|apply bd|apply ba)); exact BK386.out) hb); replace BK387 := Am (blk_below (g := gb387) (o := .cells #[.slice A1_0 l1_0.length c1_0, .slice A1_1 l1_1.length c1_1] 28 (0, 0)) (by (with_reducible repeat (first|apply bn|apply bd|apply ba)); refine blk_far ?_ NB387_398.out _; (with_reducible repeat (first|apply bn|apply bd|apply ba)); refine blk_far ?_ NB387_398.out _; (with_reducible repeat (first|apply bn|apply bd|apply ba)); exact BK387.out) hb); replace BK398 := Am (blk_below (g := gb398) (o := .cells #[.slice Ao43 t390.length co43, .slice Ao47 t393.length co47] 25 (0, 0)) (by (with_reducible repeat (first|apply bn|apply bd|apply ba)); refine blk_put (cs := #[.slice Ao43 t390.length co43, .slice none 0 0]) ?_ 1 _ rfl; (with_reducible repeat (first|apply bn|apply bd|apply ba)); refine blk_put (cs := #[.slice none 0 0, .slice none 0 0]) ?_ 0 _ rfl; (with_reducible repeat (first|apply bn|apply bd|apply ba)); exact BK398.out) hb); replace HB := Am (below_step (z17) hb); (try clear hb); (try clear hb2); (try clear hk); (try clear hi); (try clear ho0); (try clear ho1)) | ((with_reducible refine gate_dst (N := 10) rfl ?_); (try (refine gate_guard (by rfl) ?_; dsimp only)); refine box_event ?hg (N := 10) ?hd (cs := #[.slice none 0 0, .slice none 0 0]) (t := 25) ?hr ?_; (case hd => rfl); (case hg => rfl); (case hr => first | (go_simp; done) | (go_simp; rfl)); intro gb407 hg w49 hbox hb; have BK407 := Am (hbox); have GW407 := Am ((by rw [hg]; exact (below_size (z17)) : w.heap.size ≤ gb407)); have GE407 := GW407; have NB386_407 := Am ((by rw [hg]; exact Nat.ne_of_lt (blk_lt (g := gb386) (o := .cells #[.slice A0_0 l0_0.length c0_0, .slice A0_1 l0_1.length c0_1] 25 (0, 0)) (by (with_reducible repeat (first|apply bn|apply bd|apply ba)); exact BK386.out)) : gb386 ≠ gb407)); have NB407_386 := Am NB386_407.out.symm; have NB387_407 := Am ((by rw [hg]; exact Nat.ne_of_lt (blk_lt (g := gb387) (o := .cells #[.slice A1_0 l1_0.length c1_0, .slice A1_1 l1_1.length c1_1] 28 (0, 0)) (by (with_reducible repeat (first|apply bn|apply bd|apply ba)); exact BK387.out)) : gb387 ≠ gb407)); have NB407_387 := Am NB387_407.out.symm; have NB398_407 := Am ((by rw [hg]; exact Nat.ne_of_lt (blk_lt (g := gb398) (o := .cells #[.slice Ao43 t390.length co43, .slice Ao47 t393.length co47] 25 (0, 0)) (by (with_reducible repeat (first|apply bn|apply bd|apply ba)); exact BK398.out)) : gb398 ≠ gb407)); have NB407_398 := Am NB398_407.out.symm; replace HO392 := Am (Kd.R_below (by (with_reducible repeat (first | apply Kd.R_alloc | apply Kd.R_drewN | apply Kd.R_drew)); exact HO392.out) hb); replace HO395 := Am (Kd.S_below (by (with_reducible repeat (first | apply Kd.S_alloc | apply Kd.S_drewN | apply Kd.S_drew)); exact HO395.out) hb); replace HO401 := Am (Kd.R_below (by (with_reducible repeat (first | apply Kd.R_alloc | apply Kd.R_drewN | apply Kd.R_drew)); exact HO401.out) hb); replace HO404 := Am (Kd.S_below (by (with_reducible repeat (first | apply Kd.S_alloc | apply Kd.S_drewN | apply Kd.S_drew)); exact HO404.out) hb); replace BK386 := Am (blk_below (g := gb386) (o := .cells #[.slice A0_0 l0_0.length c0_0, .slice A0_1 l0_1.length c0_1] 25 (0, 0)) (by (with_reducible repeat (first|apply bn|apply bd|apply ba)); exact BK386.out) hb); replace BK387 := Am (blk_below (g := gb387) (o := .cells #[.slice A1_0 l1_0.length c1_0, .slice A1_1 l1_1.length c1_1] 28 (0, 0)) (by (with_reducible repeat (first|apply bn|apply bd|apply ba)); exact BK387.out) hb); replace BK398 := Am (blk_below (g := gb398) (o := .cells #[.slice Ao43 t390.length co43, .slice Ao47 t393.length co47] 25 (0, 0)) (by (with_reducible repeat (first|apply bn|apply bd|apply ba)); exact BK398.out) hb); replace HB := Am (below_step (z17) hb); clear hb hbox hg; obtain ⟨Ao50, co50, eo50⟩ := Kd.R_slice HO401.out; subst eo50; have hnb51 := NB407_386.out; have hnc51 := NB386_407.out; have hnb52 := NB407_387.out; have hnc52 := NB387_407.out; have hnb53 := NB407_398.out; have hnc53 := NB398_407.out; have hcz54_0 := Own.bc2 BK407.out 0; have hcz54_1 := Own.bc2 BK407.out 1; have hfz54_0 := bf BK407.out 0; have hfz54_1 := bf BK407.out 1; obtain ⟨Ao55, co55, eo55⟩ := Kd.S_slice HO404.out; subst eo55))
         have n0_ : Aside0 (Kd.R Kd.string 9 ((w49.setCell ⟨gb407, 0, none⟩ (.slice Ao50 t399.length co50)).setCell ⟨gb407, 1, none⟩ (.slice Ao55 t402.length co55)) w.heap.size (fun k_ => some k_ ≠ (.slice Ao50 t399.length co50 : Value).ownBlock) (.slice Ao43 t390.length co43) t390) := ⟨by (with_reducible repeat (first | apply Kd.R_alloc | apply Kd.R_drewN | apply Kd.R_drew)); exact Kd.R_mono (Kd.R_far (p := ⟨gb407, 1, none⟩) (Kd.R_far (p := ⟨gb407, 0, none⟩) (Kd.R_types HO392.out BK407.out (by decide)) (fun _ hk => hk.2) (.slice Ao50 t399.length co50)) (fun _ hk => hk.2) (.slice Ao55 t402.length co55)) (fun _ hk => hk.1.2)⟩
         have n1_ : Aside0 (Kd.S (Kd.slice 70 k70) 42 ((w49.setCell ⟨gb407, 0, none⟩ (.slice Ao50 t399.length co50)).setCell ⟨gb407, 1, none⟩ (.slice Ao55 t402.length co55)) w.heap.size (fun k_ => some k_ ≠ (.slice Ao55 t402.length co55 : Value).ownBlock) (.slice Ao47 t393.length co47) t393) := ⟨by (with_reducible repeat (first | apply Kd.S_alloc | apply Kd.S_drewN | apply Kd.S_drew)); exact Kd.S_mono (Kd.S_far (p := ⟨gb407, 1, none⟩) (Kd.S_far (p := ⟨gb407, 0, none⟩) (Kd.S_types HO395.out BK407.out (by decide)) (fun _ hk => hk.2) (.slice Ao50 t399.length co50)) (fun _ hk => hk.2) (.slice Ao55 t402.length co55)) (fun _ hk => hk.1.2)⟩
         have n2_ : Aside0 (Kd.R Kd.string 9 ((w49.setCell ⟨gb407, 0, none⟩ (.slice Ao50 t399.length co50)).setCell ⟨gb407, 1, none⟩ (.slice Ao55 t402.length co55)) w.heap.size (fun k_ => some k_ ≠ (.slice Ao43 t390.length co43 : Value).ownBlock) (.slice Ao50 t399.length co50) t399) := ⟨by (with_reducible repeat (first | apply Kd.R_alloc | apply Kd.R_drewN | apply Kd.R_drew)); exact Kd.R_mono (Kd.R_far (p := ⟨gb407, 1, none⟩) (Kd.R_far (p := ⟨gb407, 0, none⟩) (Kd.R_types HO401.out BK407.out (by decide)) (fun _ hk => hk.2) (.slice Ao50 t399.length co50)) (fun _ hk => hk.2) (.slice Ao55 t402.length co55)) (fun _ hk => hk.1.2)⟩
         have n3_ : Aside0 (Kd.S (Kd.slice 70 k70) 42 ((w49.setCell ⟨gb407, 0, none⟩ (.slice Ao50 t399.length co50)).setCell ⟨gb407, 1, none⟩ (.slice Ao55 t402.length co55)) w.heap.size (fun k_ => some k_ ≠ (.slice Ao47 t393.length co47 : Value).ownBlock) (.slice Ao55 t402.length co55) t402) := ⟨by (with_reducible repeat (first | apply Kd.S_alloc | apply Kd.S_drewN | apply Kd.S_drew)); exact Kd.S_mono (Kd.S_far (p := ⟨gb407, 1, none⟩) (Kd.S_far (p := ⟨gb407, 0, none⟩) (Kd.S_types HO404.out BK407.out (by decide)) (fun _ hk => hk.2) (.slice Ao50 t399.length co50)) (fun _ hk => hk.2) (.slice Ao55 t402.length co55)) (fun _ hk => hk.1.2)⟩
         have n4_ : Aside0 (((w49.setCell ⟨gb407, 0, none⟩ (.slice Ao50 t399.length co50)).setCell ⟨gb407, 1, none⟩ (.slice Ao55 t402.length co55)).heap[gb386]? = some (.cells #[.slice A0_0 l0_0.length c0_0, .slice A0_1 l0_1.length c0_1] 25 (0, 0))) := ⟨by (with_reducible repeat (first|apply bn|apply bd|apply ba)); refine blk_far ?_ NB386_407.out _; (with_reducible repeat (first|apply bn|apply bd|apply ba)); refine blk_far ?_ NB386_407.out _; (with_reducible repeat (first|apply bn|apply bd|apply ba)); exact BK386.out⟩
         have n5_ : Aside0 (((w49.setCell ⟨gb407, 0, none⟩ (.slice Ao50 t399.length co50)).setCell ⟨gb407, 1, none⟩ (.slice Ao55 t402.length co55)).heap[gb387]? = some (.cells #[.slice A1_0 l1_0.length c1_0, .slice A1_1 l1_1.length c1_1] 28 (0, 0))) := ⟨by (with_reducible repeat (first|apply bn|apply bd|apply ba)); refine blk_far ?_ NB387_407.out _; (with_reducible repeat (first|apply bn|apply bd|apply ba)); refine blk_far ?_ NB387_407.out _; (with_reducible repeat (first|apply bn|apply bd|apply ba)); exact BK387.out⟩
         have n6_ : Aside0 (((w49.setCell ⟨gb407, 0, none⟩ (.slice Ao50 t399.length co50)).setCell ⟨gb407, 1, none⟩ (.slice Ao55 t402.length co55)).heap[gb398]? = some (.cells #[.slice Ao43 t390.length co43, .slice Ao47 t393.length co47] 25 (0, 0))) := ⟨by (with_reducible repeat (first|apply bn|apply bd|apply ba)); refine blk_far ?_ NB398_407.out _; (with_reducible repeat (first|apply bn|apply bd|apply ba)); refine blk_far ?_ NB398_407.out _; (with_reducible repeat (first|apply bn|apply bd|apply ba)); exact BK398.out⟩
         have n7_ : Aside0 (((w49.setCell ⟨gb407, 0, none⟩ (.slice Ao50 t399.length co50)).setCell ⟨gb407, 1, none⟩ (.slice Ao55 t402.length co55)).heap[gb407]? = some (.cells #[.slice Ao50 t399.length co50, .slice Ao55 t402.length co55] 25 (0, 0))) := ⟨by (with_reducible repeat (first|apply bn|apply bd|apply ba)); refine blk_put (cs := #[.slice Ao50 t399.length co50, .slice none 0 0]) ?_ 1 _ rfl; (with_reducible repeat (first|apply bn|apply bd|apply ba)); refine blk_put (cs := #[.slice none 0 0, .slice none 0 0]) ?_ 0 _ rfl; (with_reducible repeat (first|apply bn|apply bd|apply ba)); exact BK407.out⟩
         have n8_ : Aside0 (Below w.heap.size w ((w49.setCell ⟨gb407, 0, none⟩ (.slice Ao50 t399.length co50)).setCell ⟨gb407, 1, none⟩ (.slice Ao55 t402.length co55))) := ⟨z12⟩
         (try clear HO392)
         (try clear HO395)
         (try clear HO401)
         (try clear HO404)
         (try clear BK386)
         (try clear BK387)
         (try clear BK398)
         (try clear BK407)
         (try clear HB)
         generalize ((w49.setCell ⟨gb407, 0, none⟩ (.slice Ao50 t399.length co50)).setCell ⟨gb407, 1, none⟩ (.slice Ao55 t402.length co55)) = w56 at n0_ n1_ n2_ n3_ n4_ n5_ n6_ n7_ n8_ ⊢
         have HO392 := n0_
         have HO395 := n1_
         have HO401 := n2_
         have HO404 := n3_
         have BK386 := n4_
         have BK387 := n5_
         have BK398 := n6_
         have BK407 := n7_
         have HB := n8_
         clear n0_ n1_ n2_ n3_ n4_ n5_ n6_ n7_ n8_
         replace HO392 := Am (Kd.R_drew HO392.out)
         replace HO395 := Am (Kd.S_drew HO395.out)
         replace HO401 := Am (Kd.R_drew HO401.out)
         replace HO404 := Am (Kd.S_drew HO404.out)
         replace BK386 := Am (bd BK386.out)
         replace BK387 := Am (bd BK387.out)
         replace BK398 := Am (bd BK398.out)
         replace BK407 := Am (bd BK407.out)
         replace HB := Am (b1 HB.out)
         refine start_ (n := 39) (S := fun w' => w'.cell? ⟨gb386, 0, none⟩ = some (.slice A0_0 l0_0.length c0_0) ∧ w'.cell? ⟨gb386, 1, none⟩ = some (.slice A0_1 l0_1.length c0_1) ∧ w'.cell? ⟨gb387, 0, none⟩ = some (.slice A1_0 l1_0.length c1_0) ∧ w'.cell? ⟨gb387, 1, none⟩ = some (.slice A1_1 l1_1.length c1_1) ∧ w'.cell? ⟨gb398, 0, none⟩ = some (.slice Ao43 t390.length co43) ∧ w'.cell? ⟨gb398, 1, none⟩ = some (.slice Ao47 t393.length co47) ∧ w'.cell? ⟨gb407, 0, none⟩ = some (.slice Ao50 t399.length co50) ∧ w'.cell? ⟨gb407, 1, none⟩ = some (.slice Ao55 t402.length co55)) (ds := []) q21_0 (by kernel_rfl) rfl rfl ⟨(bc BK386.out 0).trans rfl, (bc BK386.out 1).trans rfl, (bc BK387.out 0).trans rfl, (bc BK387.out 1).trans rfl, (bc BK398.out 0).trans rfl, (bc BK398.out 1).trans rfl, (bc BK407.out 0).trans rfl, (bc BK407.out 1).trans rfl⟩ (fun hHeld => ?_); refine with_tabW shuttlecocklaw07_TableTells.tab5 shuttlecocklaw07_TableTells.bits5 (fun HT_ HW_ => ?_)
         generalize w56.drew = w57 at HO392 HO395 HO401 HO404 BK386 BK387 BK398 BK407 HB hHeld ⊢
         refine one_ (i := 0) (N := some 46) q21_1 rfl rfl (one_of HT_.out (by kernel_rfl)) (by decide) (fun K hK => ?_)
         refine goes_ Try.func8 (by kernel_rfl) rfl #[] (by rfl) rfl rfl (by (try simp only [List.map_toArray, List.map_cons, List.map_nil]); first | done | rfl | (simp only [List.length_drop, List.length_take]; rfl)) ?_
         with_reducible refine (shuttlecocklaw07_fixed.calls kj3  true _ A30.out).mono ?_
         rintro e w58 ⟨rfl, hb⟩
         refine ⟨_, rfl, ?_⟩
         replace HO392 := Am (Kd.R_below (by (with_reducible repeat (first | apply Kd.R_alloc | apply Kd.R_drewN | apply Kd.R_drew)); exact HO392.out) hb)
         replace HO395 := Am (Kd.S_below (by (with_reducible repeat (first | apply Kd.S_alloc | apply Kd.S_drewN | apply Kd.S_drew)); exact HO395.out) hb)
         replace HO401 := Am (Kd.R_below (by (with_reducible repeat (first | apply Kd.R_alloc | apply Kd.R_drewN | apply Kd.R_drew)); exact HO401.out) hb)
         replace HO404 := Am (Kd.S_below (by (with_reducible repeat (first | apply Kd.S_alloc | apply Kd.S_drewN | apply Kd.S_drew)); exact HO404.out) hb)
         replace BK386 := Am (blk_below (g := gb386) (o := .cells #[.slice A0_0 l0_0.length c0_0, .slice A0_1 l0_1.length c0_1] 25 (0, 0)) (by (with_reducible repeat (first|apply bn|apply bd|apply ba)); exact BK386.out) hb)
         replace BK387 := Am (blk_below (g := gb387) (o := .cells #[.slice A1_0 l1_0.length c1_0, .slice A1_1 l1_1.length c1_1] 28 (0, 0)) (by (with_reducible repeat (first|apply bn|apply bd|apply ba)); exact BK387.out) hb)
         replace BK398 := Am (blk_below (g := gb398) (o := .cells #[.slice Ao43 t390.length co43, .slice Ao47 t393.length co47] 25 (0, 0)) (by (with_reducible repeat (first|apply bn|apply bd|apply ba)); exact BK398.out) hb)
         replace BK407 := Am (blk_below (g := gb407) (o := .cells #[.slice Ao50 t399.length co50, .slice Ao55 t402.length co55] 25 (0, 0)) (by (with_reducible repeat (first|apply bn|apply bd|apply ba)); exact BK407.out) hb)
         replace HB := Am (below_step (z12) hb)
         (try clear hb)
         (try clear hb2)
         (try clear hk)
         (try clear hi)
         refine hK.out _ _ ⟨(bc BK386.out 0).trans rfl, (bc BK386.out 1).trans rfl, (bc BK387.out 0).trans rfl, (bc BK387.out 1).trans rfl, (bc BK398.out 0).trans rfl, (bc BK398.out 1).trans rfl, (bc BK407.out 0).trans rfl, (bc BK407.out 1).trans rfl⟩ (fun hHeld => ?_)
         clear hK K
         refine norm_ (a' := ?_) ?_ ?_
         rotate_left
         ·
          show Act.put _ (some 46) _ = _
          simp only [Act.put, sI, sZ, sS, i64_w, i32_w]
          rfl
         refine Own.pr_ 1 (some 47) q21_2 HT_ (h := ?_)
         refine Own.tk_ 2 (some 48) q21_3 HT_ HW_ hHeld (hy := by rintro w' ⟨s0, s1, s2, s3, s4, s5, s6, s7⟩; go_simp; with_reducible rfl) (h := ?_)
         refine Own.tk_ 4 (some 50) q21_4 HT_ HW_ hHeld (hy := by rintro w' ⟨s0, s1, s2, s3, s4, s5, s6, s7⟩; go_simp; with_reducible rfl) (h := ?_)
         refine one_ (i := 3) (N := some 49) q21_5 rfl rfl (one_of HT_.out (by kernel_rfl)) (by decide) (fun K hK => ?_)
         refine goes_ Try.func11 (by kernel_rfl) rfl #[.agg #[.slice A0_0 l0_0.length c0_0, .slice A0_1 l0_1.length c0_1]] (by rfl) rfl rfl (by (try simp only [List.map_toArray, List.map_cons, List.map_nil]); first | done | rfl | (simp only [List.length_drop, List.length_take]; rfl)) ?_
         with_reducible refine (table_Encode.calls kj3 _ _ l0_0 _ _ l0_1 t409 _ ?side1 ?side2 ?side3 ?side4 A32.out).mono ?_
         (case side1 => repeat (first | exact (Kd.C_below HR0_0.out HB.out) | (with_reducible refine Kd.C_alloc ?_ _) | (with_reducible refine Kd.C_drewN ?_ _) | (with_reducible refine Kd.C_drew ?_)))
         (case side2 => exact HC0_0.out)
         (case side3 => repeat (first | exact (Kd.C_below HR0_1.out HB.out) | (with_reducible refine Kd.C_alloc ?_ _) | (with_reducible refine Kd.C_drewN ?_ _) | (with_reducible refine Kd.C_drew ?_)))
         (case side4 => exact HC0_1.out)
         rintro e w59 ⟨rfl, hb⟩
         refine ⟨_, rfl, ?_⟩
         replace HO392 := Am (Kd.R_below (by (with_reducible repeat (first | apply Kd.R_alloc | apply Kd.R_drewN | apply Kd.R_drew)); exact HO392.out) hb)
         replace HO395 := Am (Kd.S_below (by (with_reducible repeat (first | apply Kd.S_alloc | apply Kd.S_drewN | apply Kd.S_drew)); exact HO395.out) hb)
         replace HO401 := Am (Kd.R_below (by (with_reducible repeat (first | apply Kd.R_alloc | apply Kd.R_drewN | apply Kd.R_drew)); exact HO401.out) hb)
         replace HO404 := Am (Kd.S_below (by (with_reducible repeat (first | apply Kd.S_alloc | apply Kd.S_drewN | apply Kd.S_drew)); exact HO404.out) hb)
         replace BK386 := Am (blk_below (g := gb386) (o := .cells #[.slice A0_0 l0_0.length c0_0, .slice A0_1 l0_1.length c0_1] 25 (0, 0)) (by (with_reducible repeat (first|apply bn|apply bd|apply ba)); exact BK386.out) hb)
         replace BK387 := Am (blk_below (g := gb387) (o := .cells #[.slice A1_0 l1_0.length c1_0, .slice A1_1 l1_1.length c1_1] 28 (0, 0)) (by (with_reducible repeat (first|apply bn|apply bd|apply ba)); exact BK387.out) hb)
         replace BK398 := Am (blk_below (g := gb398) (o := .cells #[.slice Ao43 t390.length co43, .slice Ao47 t393.length co47] 25 (0, 0)) (by (with_reducible repeat (first|apply bn|apply bd|apply ba)); exact BK398.out) hb)
         replace BK407 := Am (blk_below (g := gb407) (o := .cells #[.slice Ao50 t399.length co50, .slice Ao55 t402.length co55] 25 (0, 0)) (by (with_reducible repeat (first|apply bn|apply bd|apply ba)); exact BK407.out) hb)
         replace HB := Am (below_step (z12) hb)
         (try clear hb)
         (try clear hb2)
         (try clear hk)
         (try clear hi)
         refine hK.out _ _ ⟨(bc BK386.out 0).trans rfl, (bc BK386.out 1).trans rfl, (bc BK387.out 0).trans rfl, (bc BK387.out 1).trans rfl, (bc BK398.out 0).trans rfl, (bc BK398.out 1).trans rfl, (bc BK407.out 0).trans rfl, (bc BK407.out 1).trans rfl⟩ (fun hHeld => ?_)
         clear hK K
         refine norm_ (a' := ?_) ?_ ?_
         rotate_left
         ·
          show Act.put _ (some 49) _ = _
          simp only [Act.put, sI, sZ, sS, i64_w, i32_w]
          rfl
         refine one_ (i := 5) (N := some 51) q21_6 rfl rfl (one_of HT_.out (by kernel_rfl)) (by decide) (fun K hK => ?_)
         refine goes_ Try.func12 (by kernel_rfl) rfl #[.agg #[.slice A0_0 l0_0.length c0_0, .slice A0_1 l0_1.length c0_1]] (by rfl) rfl rfl (by (try simp only [List.map_toArray, List.map_cons, List.map_nil]); first | done | rfl | (simp only [List.length_drop, List.length_take]; rfl)) ?_
         with_reducible refine (shuttlecockref07_Encode.calls kj3 _ _ l0_0 _ _ l0_1 t410 _ ?side1 ?side2 ?side3 ?side4 A33.out).mono ?_
         (case side1 => repeat (first | exact (Kd.C_below HR0_0.out HB.out) | (with_reducible refine Kd.C_alloc ?_ _) | (with_reducible refine Kd.C_drewN ?_ _) | (with_reducible refine Kd.C_drew ?_)))
         (case side2 => exact HC0_0.out)
         (case side3 => repeat (first | exact (Kd.C_below HR0_1.out HB.out) | (with_reducible refine Kd.C_alloc ?_ _) | (with_reducible refine Kd.C_drewN ?_ _) | (with_reducible refine Kd.C_drew ?_)))
         (case side4 => exact HC0_1.out)
         rintro e w60 ⟨rfl, hb⟩
         refine ⟨_, rfl, ?_⟩
         replace HO392 := Am (Kd.R_below (by (with_reducible repeat (first | apply Kd.R_alloc | apply Kd.R_drewN | apply Kd.R_drew)); exact HO392.out) hb)
         replace HO395 := Am (Kd.S_below (by (with_reducible repeat (first | apply Kd.S_alloc | apply Kd.S_drewN | apply Kd.S_drew)); exact HO395.out) hb)
         replace HO401 := Am (Kd.R_below (by (with_reducible repeat (first | apply Kd.R_alloc | apply Kd.R_drewN | apply Kd.R_drew)); exact HO401.out) hb)
         replace HO404 := Am (Kd.S_below (by (with_reducible repeat (first | apply Kd.S_alloc | apply Kd.S_drewN | apply Kd.S_drew)); exact HO404.out) hb)
         replace BK386 := Am (blk_below (g := gb386) (o := .cells #[.slice A0_0 l0_0.length c0_0, .slice A0_1 l0_1.length c0_1] 25 (0, 0)) (by (with_reducible repeat (first|apply bn|apply bd|apply ba)); exact BK386.out) hb)
         replace BK387 := Am (blk_below (g := gb387) (o := .cells #[.slice A1_0 l1_0.length c1_0, .slice A1_1 l1_1.length c1_1] 28 (0, 0)) (by (with_reducible repeat (first|apply bn|apply bd|apply ba)); exact BK387.out) hb)
         replace BK398 := Am (blk_below (g := gb398) (o := .cells #[.slice Ao43 t390.length co43, .slice Ao47 t393.length co47] 25 (0, 0)) (by (with_reducible repeat (first|apply bn|apply bd|apply ba)); exact BK398.out) hb)
         replace BK407 := Am (blk_below (g := gb407) (o := .cells #[.slice Ao50 t399.length co50, .slice Ao55 t402.length co55] 25 (0, 0)) (by (with_reducible repeat (first|apply bn|apply bd|apply ba)); exact BK407.out) hb)
         replace HB := Am (below_step (z12) hb)
         (try clear hb)
         (try clear hb2)
         (try clear hk)
         (try clear hi)
         refine hK.out _ _ ⟨(bc BK386.out 0).trans rfl, (bc BK386.out 1).trans rfl, (bc BK387.out 0).trans rfl, (bc BK387.out 1).trans rfl, (bc BK398.out 0).trans rfl, (bc BK398.out 1).trans rfl, (bc BK407.out 0).trans rfl, (bc BK407.out 1).trans rfl⟩ (fun hHeld => ?_)
         clear hK K
         refine norm_ (a' := ?_) ?_ ?_
         rotate_left
         ·
          show Act.put _ (some 51) _ = _
          simp only [Act.put, sI, sZ, sS, i64_w, i32_w]
          rfl
         refine Own.pr_ 6 (some 52) q21_7 HT_ (h := ?_)
         refine Own.pr_ 7 (some 53) q21_8 HT_ (h := ?_)
         refine Own.pr_ 8 (some 54) q21_9 HT_ (h := ?_)
         refine Own.pr_ 10 (some 56) q21_10 HT_ (h := ?_)
         refine Own.pr_ 12 (some 58) q21_11 HT_ (h := ?_)
         refine Own.pr_ 16 (some 62) q21_12 HT_ (h := ?_)
         refine Own.pr_ 18 (some 64) q21_13 HT_ (h := ?_)
         refine Own.tk_ 9 (some 55) q21_14 HT_ HW_ hHeld (hy := by rintro w' ⟨s0, s1, s2, s3, s4, s5, s6, s7⟩; go_simp; with_reducible rfl) (h := ?_)
         refine Own.tk_ 11 (some 57) q21_15 HT_ HW_ hHeld (hy := by rintro w' ⟨s0, s1, s2, s3, s4, s5, s6, s7⟩; go_simp; with_reducible rfl) (h := ?_)
         refine Own.tk_ 13 (some 59) q21_16 HT_ HW_ hHeld (hy := by rintro w' ⟨s0, s1, s2, s3, s4, s5, s6, s7⟩; go_simp; with_reducible rfl) (h := ?_)
         refine Own.tk_ 15 (some 61) q21_17 HT_ HW_ hHeld (hy := by rintro w' ⟨s0, s1, s2, s3, s4, s5, s6, s7⟩; go_simp; with_reducible rfl) (h := ?_)
         refine Own.tk_ 17 (some 63) q21_18 HT_ HW_ hHeld (hy := by rintro w' ⟨s0, s1, s2, s3, s4, s5, s6, s7⟩; go_simp; with_reducible rfl) (h := ?_)
         refine Own.tk_ 19 (some 65) q21_19 HT_ HW_ hHeld (hy := by rintro w' ⟨s0, s1, s2, s3, s4, s5, s6, s7⟩; go_simp; with_reducible rfl) (h := ?_)
         refine one_ (i := 14) (N := some 60) q21_20 rfl rfl (one_of HT_.out (by kernel_rfl)) (by decide) (fun K hK => ?_)
         refine goes_ Try.func13 (by kernel_rfl) rfl #[.agg #[.slice A0_0 l0_0.length c0_0, .slice A0_1 l0_1.length c0_1], .slice A1_0 l1_0.length c1_0, .slice A1_1 l1_1.length c1_1] (by rfl) rfl rfl (by (try simp only [List.map_toArray, List.map_cons, List.map_nil]); first | done | rfl | (simp only [List.length_drop, List.length_take]; rfl)) ?_
         with_reducible refine (table_Order.calls kj3 _ _ l0_0 _ _ l0_1 _ _ l1_0 _ _ l1_1 t411 _ ?side1 ?side2 ?side3 ?side4 ?side5 ?side6 ?side7 ?side8 A35.out).mono ?_
         (case side1 => repeat (first | exact (Kd.C_below HR0_0.out HB.out) | (with_reducible refine Kd.C_alloc ?_ _) | (with_reducible refine Kd.C_drewN ?_ _) | (with_reducible refine Kd.C_drew ?_)))
         (case side2 => exact HC0_0.out)
         (case side3 => repeat (first | exact (Kd.C_below HR0_1.out HB.out) | (with_reducible refine Kd.C_alloc ?_ _) | (with_reducible refine Kd.C_drewN ?_ _) | (with_reducible refine Kd.C_drew ?_)))
         (case side4 => exact HC0_1.out)
         (case side5 => repeat (first | exact (Kd.C_below HR1_0.out HB.out) | (with_reducible refine Kd.C_alloc ?_ _) | (with_reducible refine Kd.C_drewN ?_ _) | (with_reducible refine Kd.C_drew ?_)))
         (case side6 => exact HC1_0.out)
         (case side7 => repeat (first | exact (Kd.C_below HR1_1.out HB.out) | (with_reducible refine Kd.C_alloc ?_ _) | (with_reducible refine Kd.C_drewN ?_ _) | (with_reducible refine Kd.C_drew ?_)))
         (case side8 => exact HC1_1.out)
         rintro e w61 ⟨rfl, hb⟩
         refine ⟨_, rfl, ?_⟩
         replace HO392 := Am (Kd.R_below (by (with_reducible repeat (first | apply Kd.R_alloc | apply Kd.R_drewN | apply Kd.R_drew)); exact HO392.out) hb)
         replace HO395 := Am (Kd.S_below (by (with_reducible repeat (first | apply Kd.S_alloc | apply Kd.S_drewN | apply Kd.S_drew)); exact HO395.out) hb)
         replace HO401 := Am (Kd.R_below (by (with_reducible repeat (first | apply Kd.R_alloc | apply Kd.R_drewN | apply Kd.R_drew)); exact HO401.out) hb)
         replace HO404 := Am (Kd.S_below (by (with_reducible repeat (first | apply Kd.S_alloc | apply Kd.S_drewN | apply Kd.S_drew)); exact HO404.out) hb)
         replace BK386 := Am (blk_below (g := gb386) (o := .cells #[.slice A0_0 l0_0.length c0_0, .slice A0_1 l0_1.length c0_1] 25 (0, 0)) (by (with_reducible repeat (first|apply bn|apply bd|apply ba)); exact BK386.out) hb)
         replace BK387 := Am (blk_below (g := gb387) (o := .cells #[.slice A1_0 l1_0.length c1_0, .slice A1_1 l1_1.length c1_1] 28 (0, 0)) (by (with_reducible repeat (first|apply bn|apply bd|apply ba)); exact BK387.out) hb)
         replace BK398 := Am (blk_below (g := gb398) (o := .cells #[.slice Ao43 t390.length co43, .slice Ao47 t393.length co47] 25 (0, 0)) (by (with_reducible repeat (first|apply bn|apply bd|apply ba)); exact BK398.out) hb)
         replace BK407 := Am (blk_below (g := gb407) (o := .cells #[.slice Ao50 t399.length co50, .slice Ao55 t402.length co55] 25 (0, 0)) (by (with_reducible repeat (first|apply bn|apply bd|apply ba)); exact BK407.out) hb)
         replace HB := Am (below_step (z12) hb)
         (try clear hb)
         (try clear hb2)
         (try clear hk)
         (try clear hi)
         refine hK.out _ _ ⟨(bc BK386.out 0).trans rfl, (bc BK386.out 1).trans rfl, (bc BK387.out 0).trans rfl, (bc BK387.out 1).trans rfl, (bc BK398.out 0).trans rfl, (bc BK398.out 1).trans rfl, (bc BK407.out 0).trans rfl, (bc BK407.out 1).trans rfl⟩ (fun hHeld => ?_)
         clear hK K
         refine norm_ (a' := ?_) ?_ ?_
         rotate_left
         ·
          show Act.put _ (some 60) _ = _
          simp only [Act.put, sI, sZ, sS, i64_w, i32_w]
          rfl
         refine one_ (i := 20) (N := some 66) q21_21 rfl rfl (one_of HT_.out (by kernel_rfl)) (by decide) (fun K hK => ?_)
         refine goes_ Try.func14 (by kernel_rfl) rfl #[.agg #[.slice A0_0 l0_0.length c0_0, .slice A0_1 l0_1.length c0_1], .slice A1_0 l1_0.length c1_0, .slice A1_1 l1_1.length c1_1] (by rfl) rfl rfl (by (try simp only [List.map_toArray, List.map_cons, List.map_nil]); first | done | rfl | (simp only [List.length_drop, List.length_take]; rfl)) ?_
         with_reducible refine (shuttlecockref07_Order.calls kj3 _ _ l0_0 _ _ l0_1 _ _ l1_0 _ _ l1_1 t412 _ ?side1 ?side2 ?side3 ?side4 ?side5 ?side6 ?side7 ?side8 A36.out).mono ?_
         (case side1 => repeat (first | exact (Kd.C_below HR0_0.out HB.out) | (with_reducible refine Kd.C_alloc ?_ _) | (with_reducible refine Kd.C_drewN ?_ _) | (with_reducible refine Kd.C_drew ?_)))
         (case side2 => exact HC0_0.out)
         (case side3 => repeat (first | exact (Kd.C_below HR0_1.out HB.out) | (with_reducible refine Kd.C_alloc ?_ _) | (with_reducible refine Kd.C_drewN ?_ _) | (with_reducible refine Kd.C_drew ?_)))
         (case side4 => exact HC0_1.out)
         (case side5 => repeat (first | exact (Kd.C_below HR1_0.out HB.out) | (with_reducible refine Kd.C_alloc ?_ _) | (with_reducible refine Kd.C_drewN ?_ _) | (with_reducible refine Kd.C_drew ?_)))
         (case side6 => exact HC1_0.out)
         (case side7 => repeat (first | exact (Kd.C_below HR1_1.out HB.out) | (with_reducible refine Kd.C_alloc ?_ _) | (with_reducible refine Kd.C_drewN ?_ _) | (with_reducible refine Kd.C_drew ?_)))
         (case side8 => exact HC1_1.out)
         rintro e w62 ⟨rfl, hb⟩
         refine ⟨_, rfl, ?_⟩
         replace HO392 := Am (Kd.R_below (by (with_reducible repeat (first | apply Kd.R_alloc | apply Kd.R_drewN | apply Kd.R_drew)); exact HO392.out) hb)
         replace HO395 := Am (Kd.S_below (by (with_reducible repeat (first | apply Kd.S_alloc | apply Kd.S_drewN | apply Kd.S_drew)); exact HO395.out) hb)
         replace HO401 := Am (Kd.R_below (by (with_reducible repeat (first | apply Kd.R_alloc | apply Kd.R_drewN | apply Kd.R_drew)); exact HO401.out) hb)
         replace HO404 := Am (Kd.S_below (by (with_reducible repeat (first | apply Kd.S_alloc | apply Kd.S_drewN | apply Kd.S_drew)); exact HO404.out) hb)
         replace BK386 := Am (blk_below (g := gb386) (o := .cells #[.slice A0_0 l0_0.length c0_0, .slice A0_1 l0_1.length c0_1] 25 (0, 0)) (by (with_reducible repeat (first|apply bn|apply bd|apply ba)); exact BK386.out) hb)
         replace BK387 := Am (blk_below (g := gb387) (o := .cells #[.slice A1_0 l1_0.length c1_0, .slice A1_1 l1_1.length c1_1] 28 (0, 0)) (by (with_reducible repeat (first|apply bn|apply bd|apply ba)); exact BK387.out) hb)
         replace BK398 := Am (blk_below (g := gb398) (o := .cells #[.slice Ao43 t390.length co43, .slice Ao47 t393.length co47] 25 (0, 0)) (by (with_reducible repeat (first|apply bn|apply bd|apply ba)); exact BK398.out) hb)
         replace BK407 := Am (blk_below (g := gb407) (o := .cells #[.slice Ao50 t399.length co50, .slice Ao55 t402.length co55] 25 (0, 0)) (by (with_reducible repeat (first|apply bn|apply bd|apply ba)); exact BK407.out) hb)
         replace HB := Am (below_step (z12) hb)
         (try clear hb)
         (try clear hb2)
         (try clear hk)
         (try clear hi)
         refine hK.out _ _ ⟨(bc BK386.out 0).trans rfl, (bc BK386.out 1).trans rfl, (bc BK387.out 0).trans rfl, (bc BK387.out 1).trans rfl, (bc BK398.out 0).trans rfl, (bc BK398.out 1).trans rfl, (bc BK407.out 0).trans rfl, (bc BK407.out 1).trans rfl⟩ (fun hHeld => ?_)
         clear hK K
         refine norm_ (a' := ?_) ?_ ?_
         rotate_left
         ·
          show Act.put _ (some 66) _ = _
          simp only [Act.put, sI, sZ, sS, i64_w, i32_w]
          rfl
         refine Own.pr_ 21 (some 67) q21_22 HT_ (h := ?_)
         refine Own.pr_ 22 (some 68) q21_23 HT_ (h := ?_)
         refine Own.pr_ 23 (some 69) q21_24 HT_ (h := ?_)
         refine Own.tk_ 24 (some 70) q21_25 HT_ HW_ hHeld (hy := by rintro w' ⟨s0, s1, s2, s3, s4, s5, s6, s7⟩; go_simp; with_reducible rfl) (h := ?_)
         refine Own.tk_ 25 (some 71) q21_26 HT_ HW_ hHeld (hy := by rintro w' ⟨s0, s1, s2, s3, s4, s5, s6, s7⟩; go_simp; with_reducible rfl) (h := ?_)
         refine one_ (i := 26) (N := some 72) q21_27 rfl rfl (one_of HT_.out (by kernel_rfl)) (by decide) (fun K hK => ?_)
         refine goes_ Try.func15 (by kernel_rfl) rfl #[.agg #[.slice Ao43 t390.length co43, .slice Ao47 t393.length co47], .agg #[.slice Ao50 t399.length co50, .slice Ao55 t402.length co55]] (by rfl) rfl rfl (by (try simp only [List.map_toArray, List.map_cons, List.map_nil]); first | done | rfl | (simp only [List.length_drop, List.length_take]; rfl)) ?_
         with_reducible refine (shuttlecockref06_Same.calls kj3 _ _ t390 _ _ t393 _ _ t399 _ _ t402 true _ ?side1 ?side2 ?side3 ?side4 ?side5 ?side6 ?side7 ?side8 A38.out).mono ?_
         (case side1 => repeat (first | exact (Kd.R_reads' HO392.out).2.2 | (with_reducible refine Kd.C_alloc ?_ _) | (with_reducible refine Kd.C_drewN ?_ _) | (with_reducible refine Kd.C_drew ?_)))
         (case side2 => exact (Kd.R_reads' HO392.out).2.1)
         (case side3 => repeat (first | exact (Kd.S_reads' HO395.out).2.2 | (with_reducible refine Kd.C_alloc ?_ _) | (with_reducible refine Kd.C_drewN ?_ _) | (with_reducible refine Kd.C_drew ?_)))
         (case side4 => exact (Kd.S_reads' HO395.out).2.1)
         (case side5 => repeat (first | exact (Kd.R_reads' HO401.out).2.2 | (with_reducible refine Kd.C_alloc ?_ _) | (with_reducible refine Kd.C_drewN ?_ _) | (with_reducible refine Kd.C_drew ?_)))
         (case side6 => exact (Kd.R_reads' HO401.out).2.1)
         (case side7 => repeat (first | exact (Kd.S_reads' HO404.out).2.2 | (with_reducible refine Kd.C_alloc ?_ _) | (with_reducible refine Kd.C_drewN ?_ _) | (with_reducible refine Kd.C_drew ?_)))
         (case side8 => exact (Kd.S_reads' HO404.out).2.1)
         rintro e w63 ⟨rfl, hb⟩
         refine ⟨_, rfl, ?_⟩
         replace HO392 := Am (Kd.R_below (by (with_reducible repeat (first | apply Kd.R_alloc | apply Kd.R_drewN | apply Kd.R_drew)); exact HO392.out) hb)
         replace HO395 := Am (Kd.S_below (by (with_reducible repeat (first | apply Kd.S_alloc | apply Kd.S_drewN | apply Kd.S_drew)); exact HO395.out) hb)
         replace HO401 := Am (Kd.R_below (by (with_reducible repeat (first | apply Kd.R_alloc | apply Kd.R_drewN | apply Kd.R_drew)); exact HO401.out) hb)
         replace HO404 := Am (Kd.S_below (by (with_reducible repeat (first | apply Kd.S_alloc | apply Kd.S_drewN | apply Kd.S_drew)); exact HO404.out) hb)
         replace BK386 := Am (blk_below (g := gb386) (o := .cells #[.slice A0_0 l0_0.length c0_0, .slice A0_1 l0_1.length c0_1] 25 (0, 0)) (by (with_reducible repeat (first|apply bn|apply bd|apply ba)); exact BK386.out) hb)
         replace BK387 := Am (blk_below (g := gb387) (o := .cells #[.slice A1_0 l1_0.length c1_0, .slice A1_1 l1_1.length c1_1] 28 (0, 0)) (by (with_reducible repeat (first|apply bn|apply bd|apply ba)); exact BK387.out) hb)
         replace BK398 := Am (blk_below (g := gb398) (o := .cells #[.slice Ao43 t390.length co43, .slice Ao47 t393.length co47] 25 (0, 0)) (by (with_reducible repeat (first|apply bn|apply bd|apply ba)); exact BK398.out) hb)
         replace BK407 := Am (blk_below (g := gb407) (o := .cells #[.slice Ao50 t399.length co50, .slice Ao55 t402.length co55] 25 (0, 0)) (by (with_reducible repeat (first|apply bn|apply bd|apply ba)); exact BK407.out) hb)
         replace HB := Am (below_step (z12) hb)
         (try clear hb)
         (try clear hb2)
         (try clear hk)
         (try clear hi)
         refine hK.out _ _ ⟨(bc BK386.out 0).trans rfl, (bc BK386.out 1).trans rfl, (bc BK387.out 0).trans rfl, (bc BK387.out 1).trans rfl, (bc BK398.out 0).trans rfl, (bc BK398.out 1).trans rfl, (bc BK407.out 0).trans rfl, (bc BK407.out 1).trans rfl⟩ (fun hHeld => ?_)
         clear hK K
         refine norm_ (a' := ?_) ?_ ?_
         rotate_left
         ·
          show Act.put _ (some 72) _ = _
          simp only [Act.put, sI, sZ, sS, i64_w, i32_w]
          rfl
         refine Own.pr_ 27 (some 73) q21_28 HT_ (h := ?_)
         refine Own.pr_ 28 (some 74) q21_29 HT_ (h := ?_)
         refine Own.pr_ 29 (some 75) q21_30 HT_ (h := ?_)
         refine Own.pr_ 30 (some 76) q21_31 HT_ (h := ?_)
         refine Own.pr_ 31 (some 77) q21_32 HT_ (h := ?_)
         refine Own.pr_ 32 (some 78) q21_33 HT_ (h := ?_)
         refine Own.pr_ 33 (some 79) q21_34 HT_ (h := ?_)
         refine Own.pr_ 34 (some 80) q21_35 HT_ (h := ?_)
         refine Own.pr_ 35 (some 81) q21_36 HT_ (h := ?_)
         refine Own.pr_ 36 (some 82) q21_37 HT_ (h := ?_)
         refine Own.pr_ 37 (some 83) q21_38 HT_ (h := ?_)
         refine Own.pr_ 38 (some 6) q21_39 HT_ (h := ?_)
         refine done_ (done_of HT_.out (by kernel_rfl)) ?_
         try go_wp2
         go_ret
         exact ⟨y0, z12⟩
        ·
         rw [if_neg c40] at H
         have c40b0 : (t396 == t405) = false := beq_eq_false_iff_ne.mpr c40
         have c40b1 : (t396 != t405) = true := bne_iff_ne.mpr c40
         exact absurd H (by simp)
       ·
        replace c39 := Bool.eq_false_iff.mpr c39
        subst c39
        rw [if_neg (show ¬ (false = true) by decide)] at H
        exact absurd H (by simp)
      ·
       rw [if_neg c37] at H
       have c37b0 : (t411.toList == t412.toList) = false := beq_eq_false_iff_ne.mpr c37
       have c37b1 : (t411.toList != t412.toList) = true := bne_iff_ne.mpr c37
       exact absurd H (by simp)
     ·
      rw [if_neg c34] at H
      have c34b0 : (t409.toList == t410.toList) = false := beq_eq_false_iff_ne.mpr c34
      have c34b1 : (t409.toList != t410.toList) = true := bne_iff_ne.mpr c34
      exact absurd H (by simp)
    ·
     replace c31 := Bool.eq_false_iff.mpr c31
     subst c31
     rw [if_neg (show ¬ (false = true) by decide)] at H
     exact absurd H (by simp)

/-- THE ONE PURE STATEMENT of shuttlecocklaw07_TableTells (own row). -/
def shuttlecocklaw07_TableTells.Pure : Prop := ∀ (y0 : S25) (y1 : S28) (y2 : ByteArray), (((∀ e5 ∈ y0.f0, e5.size ≤ 140737488351232) ∧ y0.f0.length ≤ 140737488351232) ∧ ((∀ e5 ∈ y0.f1, ((∀ e3 ∈ e5, ((Lit.int .i64 e3.f0).wf = true ∧ (Lit.int .i64 e3.f1).wf = true)) ∧ e5.length ≤ 140737488351232)) ∧ y0.f1.length ≤ 140737488351232)) → (((∀ e5 ∈ y1.f0, (Lit.int .i64 e5).wf = true) ∧ y1.f0.length ≤ 140737488351232) ∧ ((∀ e5 ∈ y1.f1, (Lit.int .i64 e5).wf = true) ∧ y1.f1.length ≤ 140737488351232)) → y2.size ≤ 140737488351232 → ∃ k, shuttlecocklaw07_TableTells.f k y0.f0 y0.f1 y1.f0 y1.f1 y2 = some true

end Go.Proofs.Ytlmmlmmbnfcogaa.Q
