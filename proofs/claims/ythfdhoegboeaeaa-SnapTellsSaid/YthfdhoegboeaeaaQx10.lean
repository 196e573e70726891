-- printed by a program of this session (NOTES: hprint); not the kit's print
-- minified
-- halved
import Derived.Test.YthfdhoegboeaeaaAl
import Derived.Test.YthfdhoegboeaeaaQx0
import Derived.Test.YthfdhoegboeaeaaQx9
namespace Go.Proofs.Ythfdhoegboeaeaa.Q
open Go.RowKit Go.Proofs.YthfdhoegboeaeaaW.PrintWords Go.Proofs.YthfdhoegboeaeaaW.PrintLast Go.Proofs.YthfdhoegboeaeaaW.PrintMore
attribute [local go_sem] max2_int min2_int max_two min_two max_three min_three max_four min_four   -- for this text's walks alone
set_option linter.unusedVariables false
set_option linter.unusedSimpArgs false

def q10_0 : Array Bool := let o := true; let z := false; #[z,z,z,z,z,z,z,z,z,z,z,z,z,z,z,z,z,z,z,z,z,z,z,z,z,z,z,z,z,z,z,z,z,z,z,z,z,z,z,z,z,z,z]
def q10_1 : Array Bool := let o := true; let z := false; #[o,z,z,z,z,z,z,z,z,z,z,z,z,z,z,z,z,z,z,z,z,z,z,z,z,z,z,z,z,z,z,z,z,z,z,z,z,z,z,z,z,z,z]
def q10_2 : Array Bool := let o := true; let z := false; #[o,o,z,z,z,z,z,z,z,z,z,z,z,z,z,z,z,z,z,z,z,z,z,z,z,z,z,z,z,z,z,z,z,z,z,z,z,z,z,z,z,z,z]
def q10_3 : Array Bool := let o := true; let z := false; #[o,o,o,z,z,z,z,z,z,z,z,z,z,z,z,z,z,z,z,z,z,z,z,z,z,z,z,z,z,z,z,z,z,z,z,z,z,z,z,z,z,z,z]
def q10_4 : Array Bool := let o := true; let z := false; #[o,o,o,o,z,z,z,z,z,z,z,z,z,z,z,z,z,z,z,z,z,z,z,z,z,z,z,z,z,z,z,z,z,z,z,z,z,z,z,z,z,z,z]
def q10_5 : Array Bool := let o := true; let z := false; #[o,o,o,o,o,z,z,z,z,z,z,z,z,z,z,z,z,z,z,z,z,z,z,z,z,z,z,z,z,z,z,z,z,z,z,z,z,z,z,z,z,z,z]
def q10_6 : Array Bool := let o := true; let z := false; #[o,o,o,o,o,o,o,o,o,z,z,z,z,z,z,z,z,z,z,z,z,z,z,z,z,z,z,z,z,z,z,z,z,z,z,z,z,z,z,z,z,z,z]
def q10_7 : Array Bool := let o := true; let z := false; #[o,o,o,o,o,o,o,o,o,o,z,z,z,z,z,z,z,z,z,z,z,z,z,z,z,z,z,z,z,z,z,z,z,z,z,z,z,z,z,z,z,z,z]
def q10_8 : Array Bool := let o := true; let z := false; #[o,o,o,o,o,o,o,o,o,o,o,z,z,z,z,z,z,z,z,z,z,z,z,z,z,z,z,z,z,z,z,z,z,z,z,z,z,z,z,z,z,z,z]
def q10_9 : Array Bool := let o := true; let z := false; #[o,o,o,o,o,o,o,o,o,o,o,o,o,o,o,z,z,z,z,z,z,z,z,z,z,z,z,z,z,z,z,z,z,z,z,z,z,z,z,z,z,z,z]
def q10_10 : Array Bool := let o := true; let z := false; #[o,o,o,o,o,o,o,o,o,o,o,o,o,o,o,o,z,z,z,z,z,z,z,z,z,z,z,z,z,z,z,z,z,z,z,z,z,z,z,z,z,z,z]
def q10_11 : Array Bool := let o := true; let z := false; #[o,o,o,o,o,o,o,o,o,o,o,o,o,o,o,o,o,z,z,z,z,z,z,z,z,z,z,z,z,z,z,z,z,z,z,z,z,z,z,z,z,z,z]
def q10_12 : Array Bool := let o := true; let z := false; #[o,o,o,o,o,o,o,o,o,o,o,o,o,o,o,o,o,o,o,o,z,z,z,z,z,z,z,z,z,z,z,z,z,z,z,z,z,z,z,z,z,z,z]
def q10_13 : Array Bool := let o := true; let z := false; #[o,o,o,o,o,o,o,o,o,o,o,o,o,o,o,o,o,o,o,o,o,z,z,z,z,z,z,z,z,z,z,z,z,z,z,z,z,z,z,z,z,z,z]
def q10_14 : Array Bool := let o := true; let z := false; #[o,o,o,o,o,o,o,o,o,o,o,o,o,o,o,o,o,o,o,o,o,o,z,z,z,z,z,z,z,z,z,z,z,z,z,z,z,z,z,z,z,z,z]
def q10_15 : Array Bool := let o := true; let z := false; #[o,o,o,o,o,o,o,o,o,o,o,o,o,o,o,o,o,o,o,o,o,o,o,o,o,o,o,o,o,o,o,o,o,o,o,o,z,z,z,z,z,z,z]
def q10_16 : Array Bool := let o := true; let z := false; #[o,o,o,o,o,o,o,o,o,o,o,o,o,o,o,o,o,o,o,o,o,o,o,o,o,o,o,o,o,o,o,o,o,o,o,o,o,z,z,z,z,z,z]
def q10_17 : Array Bool := let o := true; let z := false; #[o,o,o,o,o,o,o,o,o,o,o,o,o,o,o,o,o,o,o,o,o,o,o,o,o,o,o,o,o,o,o,o,o,o,o,o,o,o,z,z,z,z,z]
def q10_18 : Array Bool := let o := true; let z := false; #[o,o,o,o,o,o,o,o,o,o,o,o,o,o,o,o,o,o,o,o,o,o,o,o,o,o,o,o,o,o,o,o,o,o,o,o,o,o,o,o,o,o,z]
def q10_19 : Array Bool := let o := true; let z := false; #[o,o,o,o,o,o,o,o,o,o,o,o,o,o,o,o,o,o,o,o,o,o,o,o,o,o,o,o,o,o,o,o,o,o,o,o,o,o,o,o,o,o,o]
def q10_20 : Array Bool := let o := true; let z := false; #[o,o,o,o,o,o,z,z,z,z,z,z,z,z,z,z,z,z,z,z,z,z,z,z,z,z,z,z,z,z,z,z,z,z,z,z,z,z,z,z,z,z,z]
def q10_21 : Array Bool := let o := true; let z := false; #[o,o,o,o,o,o,o,z,z,z,z,z,z,z,z,z,z,z,z,z,z,z,z,z,z,z,z,z,z,z,z,z,z,z,z,z,z,z,z,z,z,z,z]
def q10_22 : Array Bool := let o := true; let z := false; #[o,o,o,o,o,o,o,o,z,z,z,z,z,z,z,z,z,z,z,z,z,z,z,z,z,z,z,z,z,z,z,z,z,z,z,z,z,z,z,z,z,z,z]
def q10_23 : Array Bool := let o := true; let z := false; #[o,o,o,o,o,o,o,o,o,o,o,o,z,z,z,z,z,z,z,z,z,z,z,z,z,z,z,z,z,z,z,z,z,z,z,z,z,z,z,z,z,z,z]
def q10_24 : Array Bool := let o := true; let z := false; #[o,o,o,o,o,o,o,o,o,o,o,o,o,z,z,z,z,z,z,z,z,z,z,z,z,z,z,z,z,z,z,z,z,z,z,z,z,z,z,z,z,z,z]
def q10_25 : Array Bool := let o := true; let z := false; #[o,o,o,o,o,o,o,o,o,o,o,o,o,o,z,z,z,z,z,z,z,z,z,z,z,z,z,z,z,z,z,z,z,z,z,z,z,z,z,z,z,z,z]
def q10_26 : Array Bool := let o := true; let z := false; #[o,o,o,o,o,o,o,o,o,o,o,o,o,o,o,o,o,o,z,z,z,z,z,z,z,z,z,z,z,z,z,z,z,z,z,z,z,z,z,z,z,z,z]
def q10_27 : Array Bool := let o := true; let z := false; #[o,o,o,o,o,o,o,o,o,o,o,o,o,o,o,o,o,o,o,z,z,z,z,z,z,z,z,z,z,z,z,z,z,z,z,z,z,z,z,z,z,z,z]
def q10_28 : Array Bool := let o := true; let z := false; #[o,o,o,o,o,o,o,o,o,o,o,o,o,o,o,o,o,o,o,o,o,o,o,z,z,z,z,z,z,z,z,z,z,z,z,z,z,z,z,z,z,z,z]
def q10_29 : Array Bool := let o := true; let z := false; #[o,o,o,o,o,o,o,o,o,o,o,o,o,o,o,o,o,o,o,o,o,o,o,o,z,z,z,z,z,z,z,z,z,z,z,z,z,z,z,z,z,z,z]
def q10_30 : Array Bool := let o := true; let z := false; #[o,o,o,o,o,o,o,o,o,o,o,o,o,o,o,o,o,o,o,o,o,o,o,o,o,z,z,z,z,z,z,z,z,z,z,z,z,z,z,z,z,z,z]
def q10_31 : Array Bool := let o := true; let z := false; #[o,o,o,o,o,o,o,o,o,o,o,o,o,o,o,o,o,o,o,o,o,o,o,o,o,o,z,z,z,z,z,z,z,z,z,z,z,z,z,z,z,z,z]
def q10_32 : Array Bool := let o := true; let z := false; #[o,o,o,o,o,o,o,o,o,o,o,o,o,o,o,o,o,o,o,o,o,o,o,o,o,o,z,o,z,z,z,z,z,z,z,z,z,z,z,z,z,z,z]
def q10_33 : Array Bool := let o := true; let z := false; #[o,o,o,o,o,o,o,o,o,o,o,o,o,o,o,o,o,o,o,o,o,o,o,o,o,o,z,o,z,o,z,z,z,z,z,z,z,z,z,z,z,z,z]
def q10_34 : Array Bool := let o := true; let z := false; #[o,o,o,o,o,o,o,o,o,o,o,o,o,o,o,o,o,o,o,o,o,o,o,o,o,o,z,o,z,o,o,z,z,z,z,z,z,z,z,z,z,z,z]
def q10_35 : Array Bool := let o := true; let z := false; #[o,o,o,o,o,o,o,o,o,o,o,o,o,o,o,o,o,o,o,o,o,o,o,o,o,o,o,o,z,o,o,z,z,z,z,z,z,z,z,z,z,z,z]
def q10_36 : Array Bool := let o := true; let z := false; #[o,o,o,o,o,o,o,o,o,o,o,o,o,o,o,o,o,o,o,o,o,o,o,o,o,o,o,o,o,o,o,z,z,z,z,z,z,z,z,z,z,z,z]
def q10_37 : Array Bool := let o := true; let z := false; #[o,o,o,o,o,o,o,o,o,o,o,o,o,o,o,o,o,o,o,o,o,o,o,o,o,o,o,o,o,o,o,o,z,z,z,z,z,z,z,z,z,z,z]
def q10_38 : Array Bool := let o := true; let z := false; #[o,o,o,o,o,o,o,o,o,o,o,o,o,o,o,o,o,o,o,o,o,o,o,o,o,o,o,o,o,o,o,o,o,z,z,z,z,z,z,z,z,z,z]
def q10_39 : Array Bool := let o := true; let z := false; #[o,o,o,o,o,o,o,o,o,o,o,o,o,o,o,o,o,o,o,o,o,o,o,o,o,o,o,o,o,o,o,o,o,o,z,z,z,z,z,z,z,z,z]
def q10_40 : Array Bool := let o := true; let z := false; #[o,o,o,o,o,o,o,o,o,o,o,o,o,o,o,o,o,o,o,o,o,o,o,o,o,o,o,o,o,o,o,o,o,o,o,z,z,z,z,z,z,z,z]
def q10_41 : Array Bool := let o := true; let z := false; #[o,o,o,o,o,o,o,o,o,o,o,o,o,o,o,o,o,o,o,o,o,o,o,o,o,o,o,o,o,o,o,o,o,o,o,o,o,o,o,z,z,z,z]
def q10_42 : Array Bool := let o := true; let z := false; #[o,o,o,o,o,o,o,o,o,o,o,o,o,o,o,o,o,o,o,o,o,o,o,o,o,o,o,o,o,o,o,o,o,o,o,o,o,o,o,o,z,z,z]
def q10_43 : Array Bool := let o := true; let z := false; #[o,o,o,o,o,o,o,o,o,o,o,o,o,o,o,o,o,o,o,o,o,o,o,o,o,o,o,o,o,o,o,o,o,o,o,o,o,o,o,o,o,z,z]
/-! ### shuttlecockref08_May: function 13, by hand -/
def shuttlecockref08_May.T13 : Bool × List (List Nat × List Nat) := (true, [([], []), ([0], [0]), ([1], [1]), ([2], [2]), ([3, 2], [3]), ([4], [4]), ([5, 4], [4, 5]), ([6, 4, 4], [4, 6]), ([7, 4], [4, 7]), ([4, 8], [4, 8]), ([9, 7], [9]), ([10], [10]), ([11, 10], [10, 11]), ([12, 10, 10], [10, 12]), ([13, 10], [10, 13]), ([10, 14], [10, 14]), ([15, 13], [15]), ([16], [16]), ([17, 16], [16, 17]), ([18, 16], [16, 18]), ([16, 19], [16, 19]), ([20, 16], [20]), ([21], [21]), ([22, 21], [21, 22]), ([23, 21, 21], [21, 23]), ([24], [24]), ([25, 24], [24, 25]), ([24], [24]), ([27, 24], [24, 27]), ([24], [24]), ([29, 24], [24, 29]), ([28, 30, 24], [24, 28, 30]), ([31, 24], [24, 31]), ([32, 24], [24, 32]), ([26, 33, 24], [24, 26, 33]), ([24, 34, 21], [21, 24, 34]), ([21, 35], [21, 35]), ([36, 24], [36]), ([37], [37]), ([37], [37]), ([38, 39, 37, 37], [37, 38, 39]), ([40, 37], [37, 40]), ([37, 41], [37, 41])])
def shuttlecockref08_May.B13 : List Nat := [0, 1, 3, 7, 15, 31, 63, 127, 255, 511, 1023, 2047, 4095, 8191, 16383, 32767, 65535, 131071, 262143, 524287, 1048575, 2097151, 4194303, 8388607, 16777215, 33554431, 67108863, 33554431, 167772159, 33554431, 570425343, 2046820351, 4194303999, 8489271295, 17179869183, 34359738367, 68719476735, 137438953471, 274877906943, 274877906943, 1099511627775, 2199023255551, 4398046511103]
theorem shuttlecockref08_May.tab13 : rtab .any (opsOf Try.f13 13) = shuttlecockref08_May.T13 := by kernel_rfl
theorem shuttlecockref08_May.bits13 : waitsOk shuttlecockref08_May.T13.2 shuttlecockref08_May.B13 = true := by kernel_rfl
theorem shuttlecockref08_Holds.l0_at (l : List S46) (m : Int) (hl : l.length ≤ 9223372036854775807) : ∀ (d i k n : Nat), l.length = i + d → d < k → n ≤ i → shuttlecockref08_Holds.l0 k l m n i = some ((n + (l.drop i).countP (fun q => decide (q.f0 = m)) : Nat) : Int)
 | 0, i, k + 1, n, h, hk, hn => by
  unfold shuttlecockref08_Holds.l0
  rw [if_neg (by omega), List.drop_eq_nil_of_le (by omega)]
  rfl
 | d + 1, i, k + 1, n, h, hk, hn => by
  have hi : i < l.length := by omega
  have e1 : wrap64 ((i : Int) + 1) = ((i + 1 : Nat) : Int) := by unfold wrap64; omega
  have e2 : wrap64 ((n : Int) + 1) = ((n + 1 : Nat) : Int) := by unfold wrap64; omega
  have er : rd_T46 l (i : Int) = l[i] := by
   unfold rd_T46
   rw [List.getD_eq_getElem?_getD, Int.toNat_natCast, List.getElem?_eq_getElem hi]
   rfl
  unfold shuttlecockref08_Holds.l0
  rw [if_pos (by omega), if_pos (by omega), e1, e2, er, List.drop_eq_getElem_cons hi, List.countP_cons]
  by_cases hm : (l[i]).f0 = m
  ·
   rw [if_pos hm, shuttlecockref08_Holds.l0_at l m hl d (i + 1) k (n + 1) (by omega) (by omega) (by omega)]
   simp [hm]
   omega
  ·
   rw [if_neg hm, shuttlecockref08_Holds.l0_at l m hl d (i + 1) k n (by omega) (by omega) (by omega)]
   simp [hm]
theorem shuttlecockref08_Holds.at_ (l : List S46) (m : Int) (hl : l.length ≤ 9223372036854775807) (k : Nat) (hk : l.length < k) : shuttlecockref08_Holds.f k l m = some ((l.countP (fun q => decide (q.f0 = m)) : Nat) : Int) := by
 have := shuttlecockref08_Holds.l0_at l m hl l.length 0 k 0 (by omega) hk (Nat.le_refl _)
 simpa [shuttlecockref08_Holds.f] using this
theorem shuttlecockref08_has.l0_at (l : List S36) (m : Int) (hl : l.length ≤ 9223372036854775807) : ∀ (d i k n : Nat), l.length = i + d → d < k → n ≤ i → shuttlecockref08_has.l0 k l m n i = some ((n + (l.drop i).countP (fun q => decide (q.f2 = m)) : Nat) : Int)
 | 0, i, k + 1, n, h, hk, hn => by
  unfold shuttlecockref08_has.l0
  rw [if_neg (by omega), List.drop_eq_nil_of_le (by omega)]
  rfl
 | d + 1, i, k + 1, n, h, hk, hn => by
  have hi : i < l.length := by omega
  have e1 : wrap64 ((i : Int) + 1) = ((i + 1 : Nat) : Int) := by unfold wrap64; omega
  have e2 : wrap64 ((n : Int) + 1) = ((n + 1 : Nat) : Int) := by unfold wrap64; omega
  have er : rd_T36 l (i : Int) = l[i] := by
   unfold rd_T36
   rw [List.getD_eq_getElem?_getD, Int.toNat_natCast, List.getElem?_eq_getElem hi]
   rfl
  unfold shuttlecockref08_has.l0
  rw [if_pos (by omega), if_pos (by omega), e1, e2, er, List.drop_eq_getElem_cons hi, List.countP_cons]
  by_cases hm : (l[i]).f2 = m
  ·
   rw [if_pos hm, shuttlecockref08_has.l0_at l m hl d (i + 1) k (n + 1) (by omega) (by omega) (by omega)]
   simp [hm]
   omega
  ·
   rw [if_neg hm, shuttlecockref08_has.l0_at l m hl d (i + 1) k n (by omega) (by omega) (by omega)]
   simp [hm]
theorem shuttlecockref08_has.at_ (l : List S36) (m : Int) (hl : l.length ≤ 9223372036854775807) (k : Nat) (hk : l.length < k) : shuttlecockref08_has.f k l m = some ((l.countP (fun q => decide (q.f2 = m)) : Nat) : Int) := by
 have := shuttlecockref08_has.l0_at l m hl l.length 0 k 0 (by omega) hk (Nat.le_refl _)
 simpa [shuttlecockref08_has.f] using this
/-- Does a number fit? -/
def fitB (a : Int) : Bool := decide (0 ≤ a) && decide (a < 4611686018427387904)
def holdN (l : List S46) (m : Int) : Nat := l.countP fun q => decide (q.f0 = m)
def hasN (l : List S36) (m : Int) : Nat := l.countP fun q => decide (q.f2 = m)
def rightB (ps : List S46) (gs : List S36) (s m : Int) : Bool :=
 if s = 1 ∨ s = 3 then m == 0 else if m = 0 ∨ hasN gs m ≠ 1 then false else decide (s = 2 ∧ holdN ps m = 1) || decide (s = 4 ∧ holdN ps m = 0)
theorem right_at (ps : List S46) (gs : List S36) (hp : ps.length ≤ 9223372036854775807) (hg : gs.length ≤ 9223372036854775807) (a0 a s m q : Int) :
  shuttlecockref08_right.f (ps.length + gs.length + 9) a0 ps gs a s m q = some (rightB ps gs s m) := by
 have e1 := fun k hk => shuttlecockref08_Holds.at_ ps m hp k hk
 have e2 := fun k hk => shuttlecockref08_has.at_ gs m hg k hk
 unfold shuttlecockref08_right.f rightB holdN hasN
 rw [show ps.length + gs.length + 9 = (ps.length + gs.length + 7) + 1 + 1 from rfl]
 have ic : ∀ n : Nat, ((n : Int) = 1) = (n = 1) := fun n => by apply propext; omega
 have ic0 : ∀ n : Nat, ((n : Int) = 0) = (n = 0) := fun n => by apply propext; omega
 have bc : ∀ n : Nat, ((n : Int) == 0) = decide (n = 0) := fun n => by
  by_cases h : n = 0
  ·
   simp [h]
  ·
   simp [h]
 by_cases s1 : s = 1
 ·
  subst s1
  simp [shuttlecockref08_right.j0]
 ·
  by_cases s3 : s = 3
  ·
   subst s3
   simp [shuttlecockref08_right.j0]
  ·
   have b3 : (s == 3) = false := beq_eq_false_iff_ne.2 s3
   rw [if_neg s1, b3, if_neg (by simp [s1, s3])]
   rw [shuttlecockref08_right.j0, if_neg (show ¬ (false = true) by simp)]
   by_cases m0 : m = 0
   ·
    subst m0
    simp [shuttlecockref08_right.j1]
   ·
    rw [if_neg m0, e2 _ (by omega)]
    by_cases h1 : gs.countP (fun q => decide (q.f2 = m)) = 1
    ·
     rw [h1]
     rw [if_neg (by simp [m0])]
     simp only [Option.bind_some]
     rw [shuttlecockref08_right.j1, if_neg (show ¬ ((((1 : Nat) : Int) != 1) = true) by simp), e1 _ (by omega)]
     by_cases s2 : s = 2
     ·
      subst s2
      simp only [Option.bind_some, ic, ic0, bc]
      by_cases h2 : ps.countP (fun q => decide (q.f0 = m)) = 1
      ·
       simp [h2]
      ·
       simp [h2]
     ·
      by_cases s4 : s = 4
      ·
       subst s4
       simp [bc]
      ·
       simp [s2, s4]
    ·
     rw [if_pos (Or.inr h1)]
     have : (((gs.countP (fun q => decide (q.f2 = m)) : Nat) : Int) != 1) = true := by
      simp only [bne_iff_ne, ne_eq, ic]
      exact h1
     simp only [Option.bind_some, this]
     rw [shuttlecockref08_right.j1, if_pos rfl]
def rOkP (ps : List S46) (i : Nat) : Bool := fitB (rd_T46 ps i).f0 && fitB (rd_T46 ps i).f1 && (decide ((rd_T46 ps i).f0 = 0) || decide (holdN ps (rd_T46 ps i).f0 = 1))
def rPreP (ps : List S46) : Nat → Bool
 | 0 => true
 | n + 1 => rPreP ps n && rOkP ps n
theorem rPreP_false {ps : List S46} {i : Nat} (h : rOkP ps i = false) : ∀ n, i < n → rPreP ps n = false
 | 0, hn => absurd hn (by omega)
 | n + 1, hn => by
  unfold rPreP
  rcases Nat.lt_or_ge i n with h1 | h1
  ·
   rw [rPreP_false h n h1]; rfl
  ·
   obtain rfl : i = n := by omega
   rw [h, Bool.and_false]
def rOkG (ps : List S46) (gs : List S36) (i : Nat) : Bool :=
 fitB (rd_T36 gs i).f0 && fitB (rd_T36 gs i).f2 && fitB (rd_T36 gs i).f3 && !decide ((rd_T36 gs i).f0 < 1) && (decide (i = 0) || !decide ((rd_T36 gs i).f0 ≤ (rd_T36 gs ((i : Int) - 1)).f0)) && rightB ps gs (rd_T36 gs i).f1 (rd_T36 gs i).f2
def rPreG (ps : List S46) (gs : List S36) : Nat → Bool
 | 0 => true
 | n + 1 => rPreG ps gs n && rOkG ps gs n
theorem rPreG_false {ps : List S46} {gs : List S36} {i : Nat} (h : rOkG ps gs i = false) : ∀ n, i < n → rPreG ps gs n = false
 | 0, hn => absurd hn (by omega)
 | n + 1, hn => by
  unfold rPreG
  rcases Nat.lt_or_ge i n with h1 | h1
  ·
   rw [rPreG_false h n h1]; rfl
  ·
   obtain rfl : i = n := by omega
   rw [h, Bool.and_false]
def refAll (a : Int) (ps : List S46) (gs : List S36) : Bool := fitB a && !decide (64 < (ps.length : Int)) && !decide (1000 < (gs.length : Int)) && (rPreP ps ps.length && rPreG ps gs gs.length)
def shuttlecockref08_May.f (a0_0 : Int) (l0_1 : List S46) (l0_2 : List S36) : Option (Bool) := some (refAll a0_0 l0_1 l0_2)
theorem Fits_b (a : Int) (w : World) {b : Bool} (hb : fitB a = b) : Calls Try.prog 26 #[.int .i64 a] w fun e w' => e = .returned (.bool b) ∧ Below w.heap.size w w' := by
 refine (shuttlecockref04_Fits.calls a b w ?_).mono fun e w' ⟨he, hd⟩ => ⟨he, hd.below⟩
 subst hb
 unfold shuttlecockref04_Fits.f fitB
 by_cases h : a ≥ 0
 ·
  rw [if_pos h, decide_eq_true h]; rfl
 ·
  rw [if_neg h, decide_eq_false h]; rfl
/-- The snap in its box, and a G in its. -/
def RmAt (w0 w : World) (g1 g : Nat) (c1 c : Array Value) : Prop := Below w0.heap.size w0 w ∧ w.heap[g1]? = some (.cells c1 25 (0, 0)) ∧ w.heap[g]? = some (.cells c 36 (0, 0))
section
variable {w0 w w1 : World} {g1 g : Nat} {c1 c : Array Value}
theorem RmAt.below (h : RmAt w0 w g1 g c1 c) (hb : Below w.heap.size w w1) : RmAt w0 w1 g1 g c1 c := ⟨below_step h.1 hb, blk_below h.2.1 hb, blk_below h.2.2 hb⟩
theorem RmAt.drew (h : RmAt w0 w g1 g c1 c) : RmAt w0 w.drew g1 g c1 c := h.below (b1 (Below.refl _ _))
theorem RmAt.e (h : RmAt w0 w g1 g c1 c) (i : Nat) {v : Value} (hv : c[i]? = some v) : w.cell? ⟨g, i, none⟩ = some v := (bc h.2.2 i).trans hv
theorem RmAt.b (h : RmAt w0 w g1 g c1 c) (i : Nat) {v : Value} (hv : c1[i]? = some v) : w.cell? ⟨g1, i, none⟩ = some v := (bc h.2.1 i).trans hv
theorem RmAt.old (h : RmAt w0 w g1 g c1 c) {p : Addr} {v : Value} (hv : w0.cell? p = some v) : w.cell? p = some v := (h.1.cell (World.block_lt_of_cell? w0 _ hv)).trans hv
theorem RmAt.fits (h : RmAt w0 w g1 g c1 c) (a : Int) {b : Bool} (hb : fitB a = b) : Calls Try.prog 26 #[.int .i64 a] w fun e w' => e = .returned (.bool b) ∧ RmAt w0 w' g1 g c1 c :=
 (Fits_b a w hb).mono fun e w' ⟨he, hd⟩ => ⟨he, h.below hd⟩
theorem RmAt.right (h : RmAt w0 w g1 g c1 c) {A1 A2 : Option Addr} {n1 n2 : Nat} {ps : List S46} {gs : List S36} (h1 : Kd.C k46 w0 A1 ps.length ps) (h1c : ps.length ≤ n1) (h2 : Kd.C k36 w0 A2 gs.length gs) (h2c : gs.length ≤ n2) (a0 a s m q : Int) {b : Bool} (hb : rightB ps gs s m = b) :
  Calls Try.prog 27 #[.agg #[.int .i64 a0, .slice A1 ps.length n1, .slice A2 gs.length n2], .agg #[.int .i64 a, .int .i64 s, .int .i64 m, .int .i64 q]] w fun e w' => e = .returned (.bool b) ∧ RmAt w0 w' g1 g c1 c :=
 (shuttlecockref08_right.calls _ a0 A1 n1 ps A2 n2 gs a s m q b w (Kd.C_below h1 h.1) h1c (Kd.C_below h2 h.1) h2c ((right_at ps gs h1.2.1 h2.2.1 a0 a s m q).trans (congrArg some hb))).mono fun e w' ⟨he, hd⟩ => ⟨he, h.below hd⟩
end
theorem nx_rm (x : Int) (n : Nat) (h : x < (n : Int)) (h0 : 0 ≤ x) (hn : n ≤ 9223372036854775807) : wrap64 (x + 1) = x + 1 := by
 unfold wrap64
 omega
theorem pv_rm (x : Int) (n : Nat) (h : x < (n : Int)) (h0 : 0 < x) (hn : n ≤ 9223372036854775807) : wrap64 (x - 1) = x - 1 := by
 unfold wrap64
 omega
set_option maxHeartbeats 16000000 in
set_option maxRecDepth 100000 in
theorem shuttlecockref08_May.calls (a0_0 : Int) (A0_1 : Option Addr) (c0_1 : Nat) (l0_1 : List S46) (A0_2 : Option Addr) (c0_2 : Nat) (l0_2 : List S36) (r : Bool) (w : World) (hr0_1 : Kd.C k46 w A0_1 l0_1.length l0_1) (hc0_1 : l0_1.length ≤ c0_1) (hr0_2 : Kd.C k36 w A0_2 l0_2.length l0_2) (hc0_2 : l0_2.length ≤ c0_2) (h : shuttlecockref08_May.f a0_0 l0_1 l0_2 = some r) :
  Calls Try.prog 13 #[.agg #[.int .i64 a0_0, .slice A0_1 l0_1.length c0_1, .slice A0_2 l0_2.length c0_2]] w fun e w' => e = .returned (.bool r) ∧ Below w.heap.size w w' := by
 obtain rfl := Option.some.inj h
 have hml1 := hr0_1.2.1
 have hml2 := hr0_2.2.1
 have HR1 := Am hr0_1
 have HR2 := Am hr0_2
 have HC1 := Am hc0_1
 have HC2 := Am hc0_2
 clear hr0_1 hr0_2 hc0_1 hc0_2 h
 cases hf : fitB a0_0 with
 | false =>
  have HFI := Am (fun W => Fits_b a0_0 W hf)
  have HX := Am (show refAll a0_0 l0_1 l0_2 = false by unfold refAll; rw [hf]; first | rfl | simp)
  clear hf
  go_enter Try.func13, Try.ntmps13
  go_wp2_with (first | (go_at_call 26; (with_reducible refine (HFI.out _).mono ?_); rintro e w1 ⟨rfl, hb⟩; have BX := Am (blk_below (blk_new _ _) hb); have HB1 := Am (below_step (bl (Below.refl w.heap.size w) _) hb); clear hb; have hq1 := (bc BX.out 1).trans (show _ = some (Value.slice A0_1 l0_1.length c0_1) from rfl); have hq2 := (bc BX.out 2).trans (show _ = some (Value.slice A0_2 l0_2.length c0_2) from rfl)))
  go_ret
  exact ⟨by rw [HX.out]; rfl, HB1.out⟩
 | true =>
  have HFI := Am (fun W => Fits_b a0_0 W hf)
  have HF := Am hf
  clear hf
  by_cases n1 : 64 < (l0_1.length : Int)
  ·
   have n1b : decide (64 < (l0_1.length : Int)) = true := decide_eq_true n1
   have HX := Am (show refAll a0_0 l0_1 l0_2 = false by unfold refAll; rw [HF.out, n1b]; first | rfl | simp)
   clear n1
   go_enter Try.func13, Try.ntmps13
   go_wp2_with (first | (go_at_call 26; (with_reducible refine (HFI.out _).mono ?_); rintro e w1 ⟨rfl, hb⟩; have BX := Am (blk_below (blk_new _ _) hb); have HB1 := Am (below_step (bl (Below.refl w.heap.size w) _) hb); clear hb; have hq1 := (bc BX.out 1).trans (show _ = some (Value.slice A0_1 l0_1.length c0_1) from rfl); have hq2 := (bc BX.out 2).trans (show _ = some (Value.slice A0_2 l0_2.length c0_2) from rfl)))
   go_ret
   exact ⟨by rw [HX.out]; rfl, HB1.out⟩
  ·
   have n1b : decide (64 < (l0_1.length : Int)) = false := decide_eq_false n1
   clear n1
   by_cases n2 : 1000 < (l0_2.length : Int)
   ·
    have n2b : decide (1000 < (l0_2.length : Int)) = true := decide_eq_true n2
    have HX := Am (show refAll a0_0 l0_1 l0_2 = false by unfold refAll; rw [HF.out, n1b, n2b]; first | rfl | simp)
    clear n2
    go_enter Try.func13, Try.ntmps13
    go_wp2_with (first | (go_at_call 26; (with_reducible refine (HFI.out _).mono ?_); rintro e w1 ⟨rfl, hb⟩; have BX := Am (blk_below (blk_new _ _) hb); have HB1 := Am (below_step (bl (Below.refl w.heap.size w) _) hb); clear hb; have hq1 := (bc BX.out 1).trans (show _ = some (Value.slice A0_1 l0_1.length c0_1) from rfl); have hq2 := (bc BX.out 2).trans (show _ = some (Value.slice A0_2 l0_2.length c0_2) from rfl)))
    go_ret
    exact ⟨by rw [HX.out]; rfl, HB1.out⟩
   ·
    have n2b : decide (1000 < (l0_2.length : Int)) = false := decide_eq_false n2
    clear n2
    have HXX := Am (show refAll a0_0 l0_1 l0_2 = (rPreP l0_1 l0_1.length && rPreG l0_1 l0_2 l0_2.length) by unfold refAll; rw [HF.out, n1b, n2b]; rfl)
    go_enter Try.func13, Try.ntmps13
    go_wp2_with (first | (go_at_call 26; (with_reducible refine (HFI.out _).mono ?_); rintro e w1 ⟨rfl, hb⟩; have BX := Am (blk_below (blk_new _ _) hb); have HB1 := Am (below_step (bl (Below.refl w.heap.size w) _) hb); clear hb; have hq1 := (bc BX.out 1).trans (show _ = some (Value.slice A0_1 l0_1.length c0_1) from rfl); have hq2 := (bc BX.out 2).trans (show _ = some (Value.slice A0_2 l0_2.length c0_2) from rfl)))
    go_loopg [3] (l0_1.length + 1) (fun kq v3 w' => ∃ x : Int, v3 = .int .i64 x ∧ Aside0 (0 ≤ x ∧ x ≤ l0_1.length ∧ (kq : Int) + x = l0_1.length + 1 ∧ rPreP l0_1 x.toNat = true) ∧ Aside0 (Below w.heap.size w w') ∧ Aside0 (w'.heap[w.heap.size]? = some (.cells #[.int .i64 a0_0, .slice A0_1 l0_1.length c0_1, .slice A0_2 l0_2.length c0_2] 25 (0, 0))))
    case atStart => exact ⟨0, rfl, ⟨by omega, by omega, by omega, rfl⟩, HB1, BX⟩
    case round =>
     obtain ⟨x, rfl, HA, HB, HBX⟩ := hrel
     cases gk with
     | zero => exact absurd HA.out.2.2.1 (by have := HA.out.2.1; omega)
     | succ k1 =>
     have hw1 := (bc HBX.out 1).trans (show _ = some (Value.slice A0_1 l0_1.length c0_1) from rfl)
     have hw2 := (bc HBX.out 2).trans (show _ = some (Value.slice A0_2 l0_2.length c0_2) from rfl)
     by_cases d1 : x < (l0_1.length : Int)
     ·
      have d1b : decide (x < (l0_1.length : Int)) = true := decide_eq_true d1
      have d0 := HA.out.1
      obtain ⟨ad, ea, hx0, hx1⟩ := at_T46 HR1.out x d0 d1
      cases ea
      replace hx0 := (HB.out.cell (World.block_lt_of_cell? w _ hx0)).trans hx0
      replace hx1 := (HB.out.cell (World.block_lt_of_cell? w _ hx1)).trans hx1
      have p1 := eq_true d0
      have q1 := eq_true d1
      have HD := Am (And.intro d0 (And.intro d1 (show x.toNat < l0_1.length by omega)))
      clear d0 d1
      generalize hm : (rd_T46 l0_1 x).f0 = m at hx0
      generalize hq : (rd_T46 l0_1 x).f1 = q at hx1
      have HAA := Am (And.intro hm hq)
      clear hm hq
      have HOK := Am (show rOkP l0_1 x.toNat = (fitB m && fitB q && (decide (m = 0) || decide (holdN l0_1 m = 1))) by
       unfold rOkP
       rw [show ((x.toNat : Nat) : Int) = x by have := HA.out.1; omega, HAA.out.1, HAA.out.2])
      cases hfm : fitB m with
      | false =>
       have HFM := Am (fun W => Fits_b m W hfm)
       have HFMB := Am hfm
       clear hfm
       have HX := Am (rPreP_false (ps := l0_1) (i := x.toNat) (by rw [HOK.out, HFMB.out]; first | rfl | simp) l0_1.length HD.out.2.2)
       go_wp2_with (first | (go_at_call 26; (with_reducible refine (HFM.out _).mono ?_); rintro e w3 ⟨rfl, hb⟩; have BX3 := Am (blk_below (blk_below HBX.out (bl (Below.refl _ _) _)) hb); have BE3 := Am (blk_below (blk_new _ _) hb); have HB3 := Am (below_step (bl HB.out _) hb); clear hb; have hw1 := (bc BX3.out 1).trans (show _ = some (Value.slice (some ad) l0_1.length c0_1) from rfl); have h0 := (bc BE3.out 0).trans (show _ = some (Value.int .i64 m) from rfl); have h1 := (bc BE3.out 1).trans (show _ = some (Value.int .i64 q) from rfl)))
       go_ret
       exact ⟨by rw [HXX.out, HX.out]; rfl, HB3.out⟩
      | true =>
       have HFM := Am (fun W => Fits_b m W hfm)
       have HFMB := Am hfm
       clear hfm
       cases hfq : fitB q with
       | false =>
        have HFQ := Am (fun W => Fits_b q W hfq)
        have HFQB := Am hfq
        clear hfq
        have HX := Am (rPreP_false (ps := l0_1) (i := x.toNat) (by rw [HOK.out, HFMB.out, HFQB.out]; first | rfl | simp) l0_1.length HD.out.2.2)
        go_wp2_with (first | (go_at_call 26; (with_reducible refine (HFQ.out _).mono ?_); rintro e w4 ⟨rfl, hb⟩; have BX4 := Am (blk_below BX3.out hb); have BE4 := Am (blk_below BE3.out hb); have HB4 := Am (below_step HB3.out hb); clear hb; have hw1 := (bc BX4.out 1).trans (show _ = some (Value.slice (some ad) l0_1.length c0_1) from rfl); have h0 := (bc BE4.out 0).trans (show _ = some (Value.int .i64 m) from rfl); have h1 := (bc BE4.out 1).trans (show _ = some (Value.int .i64 q) from rfl)) | (go_at_call 26; (with_reducible refine (HFM.out _).mono ?_); rintro e w3 ⟨rfl, hb⟩; have BX3 := Am (blk_below (blk_below HBX.out (bl (Below.refl _ _) _)) hb); have BE3 := Am (blk_below (blk_new _ _) hb); have HB3 := Am (below_step (bl HB.out _) hb); clear hb; have hw1 := (bc BX3.out 1).trans (show _ = some (Value.slice (some ad) l0_1.length c0_1) from rfl); have h0 := (bc BE3.out 0).trans (show _ = some (Value.int .i64 m) from rfl); have h1 := (bc BE3.out 1).trans (show _ = some (Value.int .i64 q) from rfl)))
        go_ret
        exact ⟨by rw [HXX.out, HX.out]; rfl, HB4.out⟩
       | true =>
        have HFQ := Am (fun W => Fits_b q W hfq)
        have HFQB := Am hfq
        clear hfq
        by_cases m0 : m = 0
        ·
         have m0b : (m != 0) = false := by simp [m0]
         have m0d : decide (m = 0) = true := decide_eq_true m0
         clear m0
         have HNX := Am (show rPreP l0_1 (x.toNat + 1) = true by
          unfold rPreP
          rw [HA.out.2.2.2, HOK.out, HFMB.out, HFQB.out, m0d]; first | rfl | simp)
         go_wp2_with (first | (go_at_call 26; (with_reducible refine (HFQ.out _).mono ?_); rintro e w4 ⟨rfl, hb⟩; have BX4 := Am (blk_below BX3.out hb); have BE4 := Am (blk_below BE3.out hb); have HB4 := Am (below_step HB3.out hb); clear hb; have hw1 := (bc BX4.out 1).trans (show _ = some (Value.slice (some ad) l0_1.length c0_1) from rfl); have h0 := (bc BE4.out 0).trans (show _ = some (Value.int .i64 m) from rfl); have h1 := (bc BE4.out 1).trans (show _ = some (Value.int .i64 q) from rfl)) | (go_at_call 26; (with_reducible refine (HFM.out _).mono ?_); rintro e w3 ⟨rfl, hb⟩; have BX3 := Am (blk_below (blk_below HBX.out (bl (Below.refl _ _) _)) hb); have BE3 := Am (blk_below (blk_new _ _) hb); have HB3 := Am (below_step (bl HB.out _) hb); clear hb; have hw1 := (bc BX3.out 1).trans (show _ = some (Value.slice (some ad) l0_1.length c0_1) from rfl); have h0 := (bc BE3.out 0).trans (show _ = some (Value.int .i64 m) from rfl); have h1 := (bc BE3.out 1).trans (show _ = some (Value.int .i64 q) from rfl)))
         go_roundg k1
         case rel =>
          have e1 : wrap64 (x + 1) = x + 1 := nx_rm x l0_1.length HD.out.2.1 HA.out.1 hml1
          have e2 : (x + 1).toNat = x.toNat + 1 := by have := HA.out.1; omega
          exact ⟨_, rfl, ⟨by have := HA.out; rw [e1]; omega, by have := HD.out; rw [e1]; omega, by have := HA.out; rw [e1]; omega, by rw [e1, e2]; exact HNX.out⟩, HB4, BX4⟩
         case measure => exact Nat.lt_succ_self _
        ·
         have m0b : (m != 0) = true := by simp [m0]
         have m0d : decide (m = 0) = false := decide_eq_false m0
         clear m0
         have HHO : Aside0 (∀ W : World, Below w.heap.size w W → Calls Try.prog 17 #[.slice (some ad) l0_1.length c0_1, .int .i64 m] W fun e w' => e = .returned (.int .i64 ((holdN l0_1 m : Nat) : Int)) ∧ Below W.heap.size W w') := ⟨fun W hW => (shuttlecockref08_Holds.calls (l0_1.length + 1) (some ad) c0_1 l0_1 m _ W (Kd.C_below HR1.out hW) HC1.out (shuttlecockref08_Holds.at_ l0_1 m hml1 _ (Nat.lt_succ_self _))).mono fun e w' ⟨he, hd⟩ => ⟨he, hd.below⟩⟩
         by_cases hh : holdN l0_1 m = 1
         ·
          have hhb : (((holdN l0_1 m : Nat) : Int) != 1) = false := by simp [hh]
          have hhd : decide (holdN l0_1 m = 1) = true := decide_eq_true hh
          clear hh
          have HNX := Am (show rPreP l0_1 (x.toNat + 1) = true by
           unfold rPreP
           rw [HA.out.2.2.2, HOK.out, HFMB.out, HFQB.out, m0d, hhd]; first | rfl | simp)
          go_wp2_with (first | (go_at_call 17; (with_reducible refine (HHO.out _ HB4.out).mono ?_); rintro e w5 ⟨rfl, hb⟩; have BX5 := Am (blk_below BX4.out hb); have HB5 := Am (below_step HB4.out hb); clear hb) | (go_at_call 26; (with_reducible refine (HFQ.out _).mono ?_); rintro e w4 ⟨rfl, hb⟩; have BX4 := Am (blk_below BX3.out hb); have BE4 := Am (blk_below BE3.out hb); have HB4 := Am (below_step HB3.out hb); clear hb; have hw1 := (bc BX4.out 1).trans (show _ = some (Value.slice (some ad) l0_1.length c0_1) from rfl); have h0 := (bc BE4.out 0).trans (show _ = some (Value.int .i64 m) from rfl); have h1 := (bc BE4.out 1).trans (show _ = some (Value.int .i64 q) from rfl)) | (go_at_call 26; (with_reducible refine (HFM.out _).mono ?_); rintro e w3 ⟨rfl, hb⟩; have BX3 := Am (blk_below (blk_below HBX.out (bl (Below.refl _ _) _)) hb); have BE3 := Am (blk_below (blk_new _ _) hb); have HB3 := Am (below_step (bl HB.out _) hb); clear hb; have hw1 := (bc BX3.out 1).trans (show _ = some (Value.slice (some ad) l0_1.length c0_1) from rfl); have h0 := (bc BE3.out 0).trans (show _ = some (Value.int .i64 m) from rfl); have h1 := (bc BE3.out 1).trans (show _ = some (Value.int .i64 q) from rfl)))
          go_roundg k1
          case rel =>
           have e1 : wrap64 (x + 1) = x + 1 := nx_rm x l0_1.length HD.out.2.1 HA.out.1 hml1
           have e2 : (x + 1).toNat = x.toNat + 1 := by have := HA.out.1; omega
           exact ⟨_, rfl, ⟨by have := HA.out; rw [e1]; omega, by have := HD.out; rw [e1]; omega, by have := HA.out; rw [e1]; omega, by rw [e1, e2]; exact HNX.out⟩, HB5, BX5⟩
          case measure => exact Nat.lt_succ_self _
         ·
          have hhb : (((holdN l0_1 m : Nat) : Int) != 1) = true := by simp; omega
          have hhd : decide (holdN l0_1 m = 1) = false := decide_eq_false hh
          clear hh
          have HX := Am (rPreP_false (ps := l0_1) (i := x.toNat) (by rw [HOK.out, HFMB.out, HFQB.out, m0d, hhd]; first | rfl | simp) l0_1.length HD.out.2.2)
          go_wp2_with (first | (go_at_call 17; (with_reducible refine (HHO.out _ HB4.out).mono ?_); rintro e w5 ⟨rfl, hb⟩; have BX5 := Am (blk_below BX4.out hb); have HB5 := Am (below_step HB4.out hb); clear hb) | (go_at_call 26; (with_reducible refine (HFQ.out _).mono ?_); rintro e w4 ⟨rfl, hb⟩; have BX4 := Am (blk_below BX3.out hb); have BE4 := Am (blk_below BE3.out hb); have HB4 := Am (below_step HB3.out hb); clear hb; have hw1 := (bc BX4.out 1).trans (show _ = some (Value.slice (some ad) l0_1.length c0_1) from rfl); have h0 := (bc BE4.out 0).trans (show _ = some (Value.int .i64 m) from rfl); have h1 := (bc BE4.out 1).trans (show _ = some (Value.int .i64 q) from rfl)) | (go_at_call 26; (with_reducible refine (HFM.out _).mono ?_); rintro e w3 ⟨rfl, hb⟩; have BX3 := Am (blk_below (blk_below HBX.out (bl (Below.refl _ _) _)) hb); have BE3 := Am (blk_below (blk_new _ _) hb); have HB3 := Am (below_step (bl HB.out _) hb); clear hb; have hw1 := (bc BX3.out 1).trans (show _ = some (Value.slice (some ad) l0_1.length c0_1) from rfl); have h0 := (bc BE3.out 0).trans (show _ = some (Value.int .i64 m) from rfl); have h1 := (bc BE3.out 1).trans (show _ = some (Value.int .i64 q) from rfl)))
          go_ret
          exact ⟨by rw [HXX.out, HX.out]; rfl, HB5.out⟩
     ·
      have d1b : decide (x < (l0_1.length : Int)) = false := decide_eq_false d1
      have HPP := Am (show rPreP l0_1 l0_1.length = true by
       have := HA.out.2.2.2
       rwa [show x.toNat = l0_1.length by have := HA.out.2.1; omega] at this)
      have HXG := Am (show refAll a0_0 l0_1 l0_2 = rPreG l0_1 l0_2 l0_2.length by rw [HXX.out, HPP.out]; rfl)
      clear d1
      go_wp2
      go_loopg [5] (l0_2.length + 1) (fun kq v5 w' => ∃ x : Int, v5 = .int .i64 x ∧ Aside0 (0 ≤ x ∧ x ≤ l0_2.length ∧ (kq : Int) + x = l0_2.length + 1 ∧ rPreG l0_1 l0_2 x.toNat = true) ∧ Aside0 (Below w.heap.size w w') ∧ Aside0 (w'.heap[w.heap.size]? = some (.cells #[.int .i64 a0_0, .slice A0_1 l0_1.length c0_1, .slice A0_2 l0_2.length c0_2] 25 (0, 0))))
      case atStart => exact ⟨0, rfl, ⟨by omega, by omega, by omega, rfl⟩, HB, HBX⟩
      case round =>
       clear HA HB HBX hw1 hw2
       obtain ⟨x, rfl, HA, HB, HBX⟩ := hrel
       cases gk with
       | zero => exact absurd HA.out.2.2.1 (by have := HA.out.2.1; omega)
       | succ k1 =>
       have hw2 := (bc HBX.out 2).trans (show _ = some (Value.slice A0_2 l0_2.length c0_2) from rfl)
       by_cases d1 : x < (l0_2.length : Int)
       ·
        have d1b : decide (x < (l0_2.length : Int)) = true := decide_eq_true d1
        have d0 := HA.out.1
        obtain ⟨ad, ea, hx0, hx1, hx2, hx3⟩ := at_T36 HR2.out x d0 d1
        cases ea
        replace hx0 := (HB.out.cell (World.block_lt_of_cell? w _ hx0)).trans hx0
        replace hx1 := (HB.out.cell (World.block_lt_of_cell? w _ hx1)).trans hx1
        replace hx2 := (HB.out.cell (World.block_lt_of_cell? w _ hx2)).trans hx2
        replace hx3 := (HB.out.cell (World.block_lt_of_cell? w _ hx3)).trans hx3
        have p1 := eq_true d0
        have q1 := eq_true d1
        have HD := Am (And.intro d0 (And.intro d1 (show x.toNat < l0_2.length by omega)))
        clear d0 d1
        generalize ha : (rd_T36 l0_2 x).f0 = a at hx0
        generalize hs : (rd_T36 l0_2 x).f1 = s at hx1
        generalize hm : (rd_T36 l0_2 x).f2 = m at hx2
        generalize hq : (rd_T36 l0_2 x).f3 = q at hx3
        have HAA := Am (And.intro ha (And.intro hs (And.intro hm hq)))
        clear ha hs hm hq
        have HOK := Am (show rOkG l0_1 l0_2 x.toNat = (fitB a && fitB m && fitB q && !decide (a < 1) && (decide (x.toNat = 0) || !decide (a ≤ (rd_T36 l0_2 (x - 1)).f0)) && rightB l0_1 l0_2 s m) by
         unfold rOkG
         rw [show ((x.toNat : Nat) : Int) = x by have := HA.out.1; omega, HAA.out.1, HAA.out.2.1, HAA.out.2.2.1, HAA.out.2.2.2])
        go_wp2
        have HM : Aside0 (RmAt w (wr.alloc (.cells #[.int .i64 a, .int .i64 s, .int .i64 m, .int .i64 q] 36)) w.heap.size wr.heap.size #[.int .i64 a0_0, .slice A0_1 l0_1.length c0_1, .slice (some ad) l0_2.length c0_2] #[.int .i64 a, .int .i64 s, .int .i64 m, .int .i64 q]) := ⟨⟨bl HB.out _, blk_below HBX.out (bl (Below.refl _ _) _), blk_new _ _⟩⟩
        cases hf : fitB a with
        | false =>
         have HFA := Am hf
         clear hf
         have HX := Am (rPreG_false (ps := l0_1) (gs := l0_2) (i := x.toNat) (by rw [HOK.out, HFA.out]; first | rfl | simp) l0_2.length HD.out.2.2)
         refine start_ (n := 43) (S := fun w' => w'.cell? ⟨wr.heap.size, 0, none⟩ = some (.int .i64 a) ∧ w'.cell? ⟨wr.heap.size, 1, none⟩ = some (.int .i64 s) ∧ w'.cell? ⟨wr.heap.size, 2, none⟩ = some (.int .i64 m) ∧ w'.cell? ⟨wr.heap.size, 3, none⟩ = some (.int .i64 q) ∧ w'.cell? ⟨w.heap.size, 0, none⟩ = some (.int .i64 a0_0) ∧ w'.cell? ⟨w.heap.size, 1, none⟩ = some (.slice A0_1 l0_1.length c0_1) ∧ w'.cell? ⟨w.heap.size, 2, none⟩ = some (.slice (some ad) l0_2.length c0_2) ∧ RmAt w w' w.heap.size wr.heap.size #[.int .i64 a0_0, .slice A0_1 l0_1.length c0_1, .slice (some ad) l0_2.length c0_2] #[.int .i64 a, .int .i64 s, .int .i64 m, .int .i64 q]) (ds := []) q10_0 (by kernel_rfl) rfl rfl ⟨HM.out.drew.e 0 rfl, HM.out.drew.e 1 rfl, HM.out.drew.e 2 rfl, HM.out.drew.e 3 rfl, HM.out.drew.b 0 rfl, HM.out.drew.b 1 rfl, HM.out.drew.b 2 rfl, HM.out.drew⟩ (fun hHeld => ?_)
         refine with_tabW shuttlecockref08_May.tab13 shuttlecockref08_May.bits13 (fun HT_ HW_ => ?_)
         refine Own.pr_ 0 (some 70) q10_1 HT_ (h := ?_)
         refine Own.tk_ 1 (some 71) q10_2 HT_ HW_ hHeld (hy := by rintro w' ⟨s0, s1, s2, s3, s4, s5, s6, s7⟩; go_simp; with_reducible rfl) (h := ?_)
         refine one_ (i := 2) (N := some 72) q10_3 rfl rfl (one_of HT_.out (by kernel_rfl)) (by decide) (fun K hK => ?_)
         refine goes_ Try.func26 (by kernel_rfl) rfl #[.int .i64 a] (by rfl) rfl rfl (by (try simp only [List.map_toArray, List.map_cons, List.map_nil]); first | done | rfl | (simp only [List.length_drop, List.length_take]; rfl)) ?_
         with_reducible refine (RmAt.fits hHeld.2.2.2.2.2.2.2 a HFA.out).mono ?_
         rintro e w4 ⟨rfl, HJ⟩
         refine ⟨_, rfl, ?_⟩
         refine hK.out _ _ ⟨HJ.e 0 rfl, HJ.e 1 rfl, HJ.e 2 rfl, HJ.e 3 rfl, HJ.b 0 rfl, HJ.b 1 rfl, HJ.b 2 rfl, HJ⟩ (fun hHeld => ?_)
         clear hK K
         refine norm_ (a' := ?_) ?_ ?_
         rotate_left
         ·
          show Act.put _ (some 72) _ = _
          simp only [Act.put, sI, sZ, sS, i64_w, i32_w]
          rfl
         refine Own.pr_ 3 (some 73) q10_4 HT_ (h := ?_)
         refine Own.pr_ 4 (some 74) q10_5 HT_ (h := ?_)
         refine Own.skips_ HT_.out [5, 6, 7, 8] [some 75, some 76, some 77, some 78] 34 38 _ q10_6 _ ?_ _ rfl (by kernel_rfl) (fun _ _ _ _ h => h) (by kernel_rfl) ?_ ?_
         rotate_left
         ·
          simp only [Own.putU, Act.put, sI, sZ, sS]
          rfl
         refine Own.pr_ 9 (some 79) q10_7 HT_ (h := ?_)
         refine Own.pr_ 10 (some 80) q10_8 HT_ (h := ?_)
         refine Own.skips_ HT_.out [11, 12, 13, 14] [some 81, some 82, some 83, some 84] 28 32 _ q10_9 _ ?_ _ rfl (by kernel_rfl) (fun _ _ _ _ h => h) (by kernel_rfl) ?_ ?_
         rotate_left
         ·
          simp only [Own.putU, Act.put, sI, sZ, sS]
          rfl
         refine Own.pr_ 15 (some 85) q10_10 HT_ (h := ?_)
         refine Own.pr_ 16 (some 86) q10_11 HT_ (h := ?_)
         refine Own.skips_ HT_.out [17, 18, 19] [some 87, some 88, some 89] 23 26 _ q10_12 _ ?_ _ rfl (by kernel_rfl) (fun _ _ _ _ h => h) (by kernel_rfl) ?_ ?_
         rotate_left
         ·
          simp only [Own.putU, Act.put, sI, sZ, sS]
          rfl
         refine Own.pr_ 20 (some 90) q10_13 HT_ (h := ?_)
         refine Own.pr_ 21 (some 91) q10_14 HT_ (h := ?_)
         refine Own.skips_ HT_.out [22, 23, 24, 25, 26, 27, 28, 29, 30, 31, 32, 33, 34, 35] [some 92, some 93, some 94, some 95, some 96, some 97, some 98, some 99, some 100, some 101, some 102, some 103, some 104, some 105] 7 21 _ q10_15 _ ?_ _ rfl (by kernel_rfl) (fun _ _ _ _ h => h) (by kernel_rfl) ?_ ?_
         rotate_left
         ·
          simp only [Own.putU, Act.put, sI, sZ, sS]
          rfl
         refine Own.pr_ 36 (some 106) q10_16 HT_ (h := ?_)
         refine Own.pr_ 37 (some 107) q10_17 HT_ (h := ?_)
         refine Own.skips_ HT_.out [38, 39, 40, 41] [some 108, some 109, some 110, some 111] 1 5 _ q10_18 _ ?_ _ rfl (by kernel_rfl) (fun _ _ _ _ h => h) (by kernel_rfl) ?_ ?_
         rotate_left
         ·
          simp only [Own.putU, Act.put, sI, sZ, sS]
          rfl
         refine Own.pr_ 42 (some 112) q10_19 HT_ (h := ?_)
         refine done_ (done_of HT_.out (by kernel_rfl)) ?_
         have HB8 := Am (hHeld.2.2.2.2.2.2.2.1)
         have HBX8 := Am (hHeld.2.2.2.2.2.2.2.2.1)
         clear hHeld
         go_wp2
         go_ret
         exact ⟨by rw [HXG.out, HX.out]; rfl, HB8.out⟩
        | true =>
         have HFA := Am hf
         clear hf
         cases hf : fitB m with
         | false =>
          have HFM := Am hf
          clear hf
          have HX := Am (rPreG_false (ps := l0_1) (gs := l0_2) (i := x.toNat) (by rw [HOK.out, HFA.out, HFM.out]; first | rfl | simp) l0_2.length HD.out.2.2)
          refine start_ (n := 43) (S := fun w' => w'.cell? ⟨wr.heap.size, 0, none⟩ = some (.int .i64 a) ∧ w'.cell? ⟨wr.heap.size, 1, none⟩ = some (.int .i64 s) ∧ w'.cell? ⟨wr.heap.size, 2, none⟩ = some (.int .i64 m) ∧ w'.cell? ⟨wr.heap.size, 3, none⟩ = some (.int .i64 q) ∧ w'.cell? ⟨w.heap.size, 0, none⟩ = some (.int .i64 a0_0) ∧ w'.cell? ⟨w.heap.size, 1, none⟩ = some (.slice A0_1 l0_1.length c0_1) ∧ w'.cell? ⟨w.heap.size, 2, none⟩ = some (.slice (some ad) l0_2.length c0_2) ∧ RmAt w w' w.heap.size wr.heap.size #[.int .i64 a0_0, .slice A0_1 l0_1.length c0_1, .slice (some ad) l0_2.length c0_2] #[.int .i64 a, .int .i64 s, .int .i64 m, .int .i64 q]) (ds := []) q10_0 (by kernel_rfl) rfl rfl ⟨HM.out.drew.e 0 rfl, HM.out.drew.e 1 rfl, HM.out.drew.e 2 rfl, HM.out.drew.e 3 rfl, HM.out.drew.b 0 rfl, HM.out.drew.b 1 rfl, HM.out.drew.b 2 rfl, HM.out.drew⟩ (fun hHeld => ?_)
          refine with_tabW shuttlecockref08_May.tab13 shuttlecockref08_May.bits13 (fun HT_ HW_ => ?_)
          refine Own.pr_ 0 (some 70) q10_1 HT_ (h := ?_)
          refine Own.tk_ 1 (some 71) q10_2 HT_ HW_ hHeld (hy := by rintro w' ⟨s0, s1, s2, s3, s4, s5, s6, s7⟩; go_simp; with_reducible rfl) (h := ?_)
          refine one_ (i := 2) (N := some 72) q10_3 rfl rfl (one_of HT_.out (by kernel_rfl)) (by decide) (fun K hK => ?_)
          refine goes_ Try.func26 (by kernel_rfl) rfl #[.int .i64 a] (by rfl) rfl rfl (by (try simp only [List.map_toArray, List.map_cons, List.map_nil]); first | done | rfl | (simp only [List.length_drop, List.length_take]; rfl)) ?_
          with_reducible refine (RmAt.fits hHeld.2.2.2.2.2.2.2 a HFA.out).mono ?_
          rintro e w4 ⟨rfl, HJ⟩
          refine ⟨_, rfl, ?_⟩
          refine hK.out _ _ ⟨HJ.e 0 rfl, HJ.e 1 rfl, HJ.e 2 rfl, HJ.e 3 rfl, HJ.b 0 rfl, HJ.b 1 rfl, HJ.b 2 rfl, HJ⟩ (fun hHeld => ?_)
          clear hK K
          refine norm_ (a' := ?_) ?_ ?_
          rotate_left
          ·
           show Act.put _ (some 72) _ = _
           simp only [Act.put, sI, sZ, sS, i64_w, i32_w]
           rfl
          refine Own.pr_ 3 (some 73) q10_4 HT_ (h := ?_)
          refine Own.pr_ 4 (some 74) q10_5 HT_ (h := ?_)
          refine Own.pr_ 5 (some 75) q10_20 HT_ (h := ?_)
          refine Own.tk_ 6 (some 76) q10_21 HT_ HW_ hHeld (hy := by rintro w' ⟨s0, s1, s2, s3, s4, s5, s6, s7⟩; go_simp; with_reducible rfl) (h := ?_)
          refine one_ (i := 7) (N := some 77) q10_22 rfl rfl (one_of HT_.out (by kernel_rfl)) (by decide) (fun K hK => ?_)
          refine goes_ Try.func26 (by kernel_rfl) rfl #[.int .i64 m] (by rfl) rfl rfl (by (try simp only [List.map_toArray, List.map_cons, List.map_nil]); first | done | rfl | (simp only [List.length_drop, List.length_take]; rfl)) ?_
          with_reducible refine (RmAt.fits hHeld.2.2.2.2.2.2.2 m HFM.out).mono ?_
          rintro e w5 ⟨rfl, HJ⟩
          refine ⟨_, rfl, ?_⟩
          refine hK.out _ _ ⟨HJ.e 0 rfl, HJ.e 1 rfl, HJ.e 2 rfl, HJ.e 3 rfl, HJ.b 0 rfl, HJ.b 1 rfl, HJ.b 2 rfl, HJ⟩ (fun hHeld => ?_)
          clear hK K
          refine norm_ (a' := ?_) ?_ ?_
          rotate_left
          ·
           show Act.put _ (some 77) _ = _
           simp only [Act.put, sI, sZ, sS, i64_w, i32_w]
           rfl
          refine Own.pr_ 8 (some 78) q10_6 HT_ (h := ?_)
          refine Own.pr_ 9 (some 79) q10_7 HT_ (h := ?_)
          refine Own.pr_ 10 (some 80) q10_8 HT_ (h := ?_)
          refine Own.skips_ HT_.out [11, 12, 13, 14] [some 81, some 82, some 83, some 84] 28 32 _ q10_9 _ ?_ _ rfl (by kernel_rfl) (fun _ _ _ _ h => h) (by kernel_rfl) ?_ ?_
          rotate_left
          ·
           simp only [Own.putU, Act.put, sI, sZ, sS]
           rfl
          refine Own.pr_ 15 (some 85) q10_10 HT_ (h := ?_)
          refine Own.pr_ 16 (some 86) q10_11 HT_ (h := ?_)
          refine Own.skips_ HT_.out [17, 18, 19] [some 87, some 88, some 89] 23 26 _ q10_12 _ ?_ _ rfl (by kernel_rfl) (fun _ _ _ _ h => h) (by kernel_rfl) ?_ ?_
          rotate_left
          ·
           simp only [Own.putU, Act.put, sI, sZ, sS]
           rfl
          refine Own.pr_ 20 (some 90) q10_13 HT_ (h := ?_)
          refine Own.pr_ 21 (some 91) q10_14 HT_ (h := ?_)
          refine Own.skips_ HT_.out [22, 23, 24, 25, 26, 27, 28, 29, 30, 31, 32, 33, 34, 35] [some 92, some 93, some 94, some 95, some 96, some 97, some 98, some 99, some 100, some 101, some 102, some 103, some 104, some 105] 7 21 _ q10_15 _ ?_ _ rfl (by kernel_rfl) (fun _ _ _ _ h => h) (by kernel_rfl) ?_ ?_
          rotate_left
          ·
           simp only [Own.putU, Act.put, sI, sZ, sS]
           rfl
          refine Own.pr_ 36 (some 106) q10_16 HT_ (h := ?_)
          refine Own.pr_ 37 (some 107) q10_17 HT_ (h := ?_)
          refine Own.skips_ HT_.out [38, 39, 40, 41] [some 108, some 109, some 110, some 111] 1 5 _ q10_18 _ ?_ _ rfl (by kernel_rfl) (fun _ _ _ _ h => h) (by kernel_rfl) ?_ ?_
          rotate_left
          ·
           simp only [Own.putU, Act.put, sI, sZ, sS]
           rfl
          refine Own.pr_ 42 (some 112) q10_19 HT_ (h := ?_)
          refine done_ (done_of HT_.out (by kernel_rfl)) ?_
          have HB8 := Am (hHeld.2.2.2.2.2.2.2.1)
          have HBX8 := Am (hHeld.2.2.2.2.2.2.2.2.1)
          clear hHeld
          go_wp2
          go_ret
          exact ⟨by rw [HXG.out, HX.out]; rfl, HB8.out⟩
         | true =>
          have HFM := Am hf
          clear hf
          cases hf : fitB q with
          | false =>
           have HFQ := Am hf
           clear hf
           have HX := Am (rPreG_false (ps := l0_1) (gs := l0_2) (i := x.toNat) (by rw [HOK.out, HFA.out, HFM.out, HFQ.out]; first | rfl | simp) l0_2.length HD.out.2.2)
           refine start_ (n := 43) (S := fun w' => w'.cell? ⟨wr.heap.size, 0, none⟩ = some (.int .i64 a) ∧ w'.cell? ⟨wr.heap.size, 1, none⟩ = some (.int .i64 s) ∧ w'.cell? ⟨wr.heap.size, 2, none⟩ = some (.int .i64 m) ∧ w'.cell? ⟨wr.heap.size, 3, none⟩ = some (.int .i64 q) ∧ w'.cell? ⟨w.heap.size, 0, none⟩ = some (.int .i64 a0_0) ∧ w'.cell? ⟨w.heap.size, 1, none⟩ = some (.slice A0_1 l0_1.length c0_1) ∧ w'.cell? ⟨w.heap.size, 2, none⟩ = some (.slice (some ad) l0_2.length c0_2) ∧ RmAt w w' w.heap.size wr.heap.size #[.int .i64 a0_0, .slice A0_1 l0_1.length c0_1, .slice (some ad) l0_2.length c0_2] #[.int .i64 a, .int .i64 s, .int .i64 m, .int .i64 q]) (ds := []) q10_0 (by kernel_rfl) rfl rfl ⟨HM.out.drew.e 0 rfl, HM.out.drew.e 1 rfl, HM.out.drew.e 2 rfl, HM.out.drew.e 3 rfl, HM.out.drew.b 0 rfl, HM.out.drew.b 1 rfl, HM.out.drew.b 2 rfl, HM.out.drew⟩ (fun hHeld => ?_)
           refine with_tabW shuttlecockref08_May.tab13 shuttlecockref08_May.bits13 (fun HT_ HW_ => ?_)
           refine Own.pr_ 0 (some 70) q10_1 HT_ (h := ?_)
           refine Own.tk_ 1 (some 71) q10_2 HT_ HW_ hHeld (hy := by rintro w' ⟨s0, s1, s2, s3, s4, s5, s6, s7⟩; go_simp; with_reducible rfl) (h := ?_)
           refine one_ (i := 2) (N := some 72) q10_3 rfl rfl (one_of HT_.out (by kernel_rfl)) (by decide) (fun K hK => ?_)
           refine goes_ Try.func26 (by kernel_rfl) rfl #[.int .i64 a] (by rfl) rfl rfl (by (try simp only [List.map_toArray, List.map_cons, List.map_nil]); first | done | rfl | (simp only [List.length_drop, List.length_take]; rfl)) ?_
           with_reducible refine (RmAt.fits hHeld.2.2.2.2.2.2.2 a HFA.out).mono ?_
           rintro e w4 ⟨rfl, HJ⟩
           refine ⟨_, rfl, ?_⟩
           refine hK.out _ _ ⟨HJ.e 0 rfl, HJ.e 1 rfl, HJ.e 2 rfl, HJ.e 3 rfl, HJ.b 0 rfl, HJ.b 1 rfl, HJ.b 2 rfl, HJ⟩ (fun hHeld => ?_)
           clear hK K
           refine norm_ (a' := ?_) ?_ ?_
           rotate_left
           ·
            show Act.put _ (some 72) _ = _
            simp only [Act.put, sI, sZ, sS, i64_w, i32_w]
            rfl
           refine Own.pr_ 3 (some 73) q10_4 HT_ (h := ?_)
           refine Own.pr_ 4 (some 74) q10_5 HT_ (h := ?_)
           refine Own.pr_ 5 (some 75) q10_20 HT_ (h := ?_)
           refine Own.tk_ 6 (some 76) q10_21 HT_ HW_ hHeld (hy := by rintro w' ⟨s0, s1, s2, s3, s4, s5, s6, s7⟩; go_simp; with_reducible rfl) (h := ?_)
           refine one_ (i := 7) (N := some 77) q10_22 rfl rfl (one_of HT_.out (by kernel_rfl)) (by decide) (fun K hK => ?_)
           refine goes_ Try.func26 (by kernel_rfl) rfl #[.int .i64 m] (by rfl) rfl rfl (by (try simp only [List.map_toArray, List.map_cons, List.map_nil]); first | done | rfl | (simp only [List.length_drop, List.length_take]; rfl)) ?_
           with_reducible refine (RmAt.fits hHeld.2.2.2.2.2.2.2 m HFM.out).mono ?_
           rintro e w5 ⟨rfl, HJ⟩
           refine ⟨_, rfl, ?_⟩
           refine hK.out _ _ ⟨HJ.e 0 rfl, HJ.e 1 rfl, HJ.e 2 rfl, HJ.e 3 rfl, HJ.b 0 rfl, HJ.b 1 rfl, HJ.b 2 rfl, HJ⟩ (fun hHeld => ?_)
           clear hK K
           refine norm_ (a' := ?_) ?_ ?_
           rotate_left
           ·
            show Act.put _ (some 77) _ = _
            simp only [Act.put, sI, sZ, sS, i64_w, i32_w]
            rfl
           refine Own.pr_ 8 (some 78) q10_6 HT_ (h := ?_)
           refine Own.pr_ 9 (some 79) q10_7 HT_ (h := ?_)
           refine Own.pr_ 10 (some 80) q10_8 HT_ (h := ?_)
           refine Own.pr_ 11 (some 81) q10_23 HT_ (h := ?_)
           refine Own.tk_ 12 (some 82) q10_24 HT_ HW_ hHeld (hy := by rintro w' ⟨s0, s1, s2, s3, s4, s5, s6, s7⟩; go_simp; with_reducible rfl) (h := ?_)
           refine one_ (i := 13) (N := some 83) q10_25 rfl rfl (one_of HT_.out (by kernel_rfl)) (by decide) (fun K hK => ?_)
           refine goes_ Try.func26 (by kernel_rfl) rfl #[.int .i64 q] (by rfl) rfl rfl (by (try simp only [List.map_toArray, List.map_cons, List.map_nil]); first | done | rfl | (simp only [List.length_drop, List.length_take]; rfl)) ?_
           with_reducible refine (RmAt.fits hHeld.2.2.2.2.2.2.2 q HFQ.out).mono ?_
           rintro e w6 ⟨rfl, HJ⟩
           refine ⟨_, rfl, ?_⟩
           refine hK.out _ _ ⟨HJ.e 0 rfl, HJ.e 1 rfl, HJ.e 2 rfl, HJ.e 3 rfl, HJ.b 0 rfl, HJ.b 1 rfl, HJ.b 2 rfl, HJ⟩ (fun hHeld => ?_)
           clear hK K
           refine norm_ (a' := ?_) ?_ ?_
           rotate_left
           ·
            show Act.put _ (some 83) _ = _
            simp only [Act.put, sI, sZ, sS, i64_w, i32_w]
            rfl
           refine Own.pr_ 14 (some 84) q10_9 HT_ (h := ?_)
           refine Own.pr_ 15 (some 85) q10_10 HT_ (h := ?_)
           refine Own.pr_ 16 (some 86) q10_11 HT_ (h := ?_)
           refine Own.skips_ HT_.out [17, 18, 19] [some 87, some 88, some 89] 23 26 _ q10_12 _ ?_ _ rfl (by kernel_rfl) (fun _ _ _ _ h => h) (by kernel_rfl) ?_ ?_
           rotate_left
           ·
            simp only [Own.putU, Act.put, sI, sZ, sS]
            rfl
           refine Own.pr_ 20 (some 90) q10_13 HT_ (h := ?_)
           refine Own.pr_ 21 (some 91) q10_14 HT_ (h := ?_)
           refine Own.skips_ HT_.out [22, 23, 24, 25, 26, 27, 28, 29, 30, 31, 32, 33, 34, 35] [some 92, some 93, some 94, some 95, some 96, some 97, some 98, some 99, some 100, some 101, some 102, some 103, some 104, some 105] 7 21 _ q10_15 _ ?_ _ rfl (by kernel_rfl) (fun _ _ _ _ h => h) (by kernel_rfl) ?_ ?_
           rotate_left
           ·
            simp only [Own.putU, Act.put, sI, sZ, sS]
            rfl
           refine Own.pr_ 36 (some 106) q10_16 HT_ (h := ?_)
           refine Own.pr_ 37 (some 107) q10_17 HT_ (h := ?_)
           refine Own.skips_ HT_.out [38, 39, 40, 41] [some 108, some 109, some 110, some 111] 1 5 _ q10_18 _ ?_ _ rfl (by kernel_rfl) (fun _ _ _ _ h => h) (by kernel_rfl) ?_ ?_
           rotate_left
           ·
            simp only [Own.putU, Act.put, sI, sZ, sS]
            rfl
           refine Own.pr_ 42 (some 112) q10_19 HT_ (h := ?_)
           refine done_ (done_of HT_.out (by kernel_rfl)) ?_
           have HB8 := Am (hHeld.2.2.2.2.2.2.2.1)
           have HBX8 := Am (hHeld.2.2.2.2.2.2.2.2.1)
           clear hHeld
           go_wp2
           go_ret
           exact ⟨by rw [HXG.out, HX.out]; rfl, HB8.out⟩
          | true =>
           have HFQ := Am hf
           clear hf
           by_cases g1 : a < 1
           ·
            have g1b : decide (a < 1) = true := decide_eq_true g1
            clear g1
            have HX := Am (rPreG_false (ps := l0_1) (gs := l0_2) (i := x.toNat) (by rw [HOK.out, HFA.out, HFM.out, HFQ.out, g1b]; first | rfl | simp) l0_2.length HD.out.2.2)
            refine start_ (n := 43) (S := fun w' => w'.cell? ⟨wr.heap.size, 0, none⟩ = some (.int .i64 a) ∧ w'.cell? ⟨wr.heap.size, 1, none⟩ = some (.int .i64 s) ∧ w'.cell? ⟨wr.heap.size, 2, none⟩ = some (.int .i64 m) ∧ w'.cell? ⟨wr.heap.size, 3, none⟩ = some (.int .i64 q) ∧ w'.cell? ⟨w.heap.size, 0, none⟩ = some (.int .i64 a0_0) ∧ w'.cell? ⟨w.heap.size, 1, none⟩ = some (.slice A0_1 l0_1.length c0_1) ∧ w'.cell? ⟨w.heap.size, 2, none⟩ = some (.slice (some ad) l0_2.length c0_2) ∧ RmAt w w' w.heap.size wr.heap.size #[.int .i64 a0_0, .slice A0_1 l0_1.length c0_1, .slice (some ad) l0_2.length c0_2] #[.int .i64 a, .int .i64 s, .int .i64 m, .int .i64 q]) (ds := []) q10_0 (by kernel_rfl) rfl rfl ⟨HM.out.drew.e 0 rfl, HM.out.drew.e 1 rfl, HM.out.drew.e 2 rfl, HM.out.drew.e 3 rfl, HM.out.drew.b 0 rfl, HM.out.drew.b 1 rfl, HM.out.drew.b 2 rfl, HM.out.drew⟩ (fun hHeld => ?_)
            refine with_tabW shuttlecockref08_May.tab13 shuttlecockref08_May.bits13 (fun HT_ HW_ => ?_)
            refine Own.pr_ 0 (some 70) q10_1 HT_ (h := ?_)
            refine Own.tk_ 1 (some 71) q10_2 HT_ HW_ hHeld (hy := by rintro w' ⟨s0, s1, s2, s3, s4, s5, s6, s7⟩; go_simp; with_reducible rfl) (h := ?_)
            refine one_ (i := 2) (N := some 72) q10_3 rfl rfl (one_of HT_.out (by kernel_rfl)) (by decide) (fun K hK => ?_)
            refine goes_ Try.func26 (by kernel_rfl) rfl #[.int .i64 a] (by rfl) rfl rfl (by (try simp only [List.map_toArray, List.map_cons, List.map_nil]); first | done | rfl | (simp only [List.length_drop, List.length_take]; rfl)) ?_
            with_reducible refine (RmAt.fits hHeld.2.2.2.2.2.2.2 a HFA.out).mono ?_
            rintro e w4 ⟨rfl, HJ⟩
            refine ⟨_, rfl, ?_⟩
            refine hK.out _ _ ⟨HJ.e 0 rfl, HJ.e 1 rfl, HJ.e 2 rfl, HJ.e 3 rfl, HJ.b 0 rfl, HJ.b 1 rfl, HJ.b 2 rfl, HJ⟩ (fun hHeld => ?_)
            clear hK K
            refine norm_ (a' := ?_) ?_ ?_
            rotate_left
            ·
             show Act.put _ (some 72) _ = _
             simp only [Act.put, sI, sZ, sS, i64_w, i32_w]
             rfl
            refine Own.pr_ 3 (some 73) q10_4 HT_ (h := ?_)
            refine Own.pr_ 4 (some 74) q10_5 HT_ (h := ?_)
            refine Own.pr_ 5 (some 75) q10_20 HT_ (h := ?_)
            refine Own.tk_ 6 (some 76) q10_21 HT_ HW_ hHeld (hy := by rintro w' ⟨s0, s1, s2, s3, s4, s5, s6, s7⟩; go_simp; with_reducible rfl) (h := ?_)
            refine one_ (i := 7) (N := some 77) q10_22 rfl rfl (one_of HT_.out (by kernel_rfl)) (by decide) (fun K hK => ?_)
            refine goes_ Try.func26 (by kernel_rfl) rfl #[.int .i64 m] (by rfl) rfl rfl (by (try simp only [List.map_toArray, List.map_cons, List.map_nil]); first | done | rfl | (simp only [List.length_drop, List.length_take]; rfl)) ?_
            with_reducible refine (RmAt.fits hHeld.2.2.2.2.2.2.2 m HFM.out).mono ?_
            rintro e w5 ⟨rfl, HJ⟩
            refine ⟨_, rfl, ?_⟩
            refine hK.out _ _ ⟨HJ.e 0 rfl, HJ.e 1 rfl, HJ.e 2 rfl, HJ.e 3 rfl, HJ.b 0 rfl, HJ.b 1 rfl, HJ.b 2 rfl, HJ⟩ (fun hHeld => ?_)
            clear hK K
            refine norm_ (a' := ?_) ?_ ?_
            rotate_left
            ·
             show Act.put _ (some 77) _ = _
             simp only [Act.put, sI, sZ, sS, i64_w, i32_w]
             rfl
            refine Own.pr_ 8 (some 78) q10_6 HT_ (h := ?_)
            refine Own.pr_ 9 (some 79) q10_7 HT_ (h := ?_)
            refine Own.pr_ 10 (some 80) q10_8 HT_ (h := ?_)
            refine Own.pr_ 11 (some 81) q10_23 HT_ (h := ?_)
            refine Own.tk_ 12 (some 82) q10_24 HT_ HW_ hHeld (hy := by rintro w' ⟨s0, s1, s2, s3, s4, s5, s6, s7⟩; go_simp; with_reducible rfl) (h := ?_)
            refine one_ (i := 13) (N := some 83) q10_25 rfl rfl (one_of HT_.out (by kernel_rfl)) (by decide) (fun K hK => ?_)
            refine goes_ Try.func26 (by kernel_rfl) rfl #[.int .i64 q] (by rfl) rfl rfl (by (try simp only [List.map_toArray, List.map_cons, List.map_nil]); first | done | rfl | (simp only [List.length_drop, List.length_take]; rfl)) ?_
            with_reducible refine (RmAt.fits hHeld.2.2.2.2.2.2.2 q HFQ.out).mono ?_
            rintro e w6 ⟨rfl, HJ⟩
            refine ⟨_, rfl, ?_⟩
            refine hK.out _ _ ⟨HJ.e 0 rfl, HJ.e 1 rfl, HJ.e 2 rfl, HJ.e 3 rfl, HJ.b 0 rfl, HJ.b 1 rfl, HJ.b 2 rfl, HJ⟩ (fun hHeld => ?_)
            clear hK K
            refine norm_ (a' := ?_) ?_ ?_
            rotate_left
            ·
             show Act.put _ (some 83) _ = _
             simp only [Act.put, sI, sZ, sS, i64_w, i32_w]
             rfl
            refine Own.pr_ 14 (some 84) q10_9 HT_ (h := ?_)
            refine Own.pr_ 15 (some 85) q10_10 HT_ (h := ?_)
            refine Own.pr_ 16 (some 86) q10_11 HT_ (h := ?_)
            refine Own.pr_ 17 (some 87) q10_26 HT_ (h := ?_)
            refine Own.tk_ 18 (some 88) q10_27 HT_ HW_ hHeld (hy := by rintro w' ⟨s0, s1, s2, s3, s4, s5, s6, s7⟩; go_simp; with_reducible rfl) (h := ?_)
            refine Own.pr_ 19 (some 89) q10_12 HT_ (h := ?_)
            refine Own.pr_ 20 (some 90) q10_13 HT_ (h := ?_)
            refine Own.pr_ 21 (some 91) q10_14 HT_ (h := ?_)
            refine Own.skips_ HT_.out [22, 23, 24, 25, 26, 27, 28, 29, 30, 31, 32, 33, 34, 35] [some 92, some 93, some 94, some 95, some 96, some 97, some 98, some 99, some 100, some 101, some 102, some 103, some 104, some 105] 7 21 _ q10_15 _ ?_ _ rfl (by kernel_rfl) (fun _ _ _ _ h => h) (by kernel_rfl) ?_ ?_
            rotate_left
            ·
             simp only [Own.putU, Act.put, sI, sZ, sS]
             rfl
            refine Own.pr_ 36 (some 106) q10_16 HT_ (h := ?_)
            refine Own.pr_ 37 (some 107) q10_17 HT_ (h := ?_)
            refine Own.skips_ HT_.out [38, 39, 40, 41] [some 108, some 109, some 110, some 111] 1 5 _ q10_18 _ ?_ _ rfl (by kernel_rfl) (fun _ _ _ _ h => h) (by kernel_rfl) ?_ ?_
            rotate_left
            ·
             simp only [Own.putU, Act.put, sI, sZ, sS]
             rfl
            refine Own.pr_ 42 (some 112) q10_19 HT_ (h := ?_)
            refine done_ (done_of HT_.out (by kernel_rfl)) ?_
            have HB8 := Am (hHeld.2.2.2.2.2.2.2.1)
            have HBX8 := Am (hHeld.2.2.2.2.2.2.2.2.1)
            clear hHeld
            go_wp2
            go_ret
            exact ⟨by rw [HXG.out, HX.out]; rfl, HB8.out⟩
           ·
            have g1b : decide (a < 1) = false := decide_eq_false g1
            clear g1
            by_cases x0 : 0 < x
            ·
             have x0b : decide (0 < x) = true := decide_eq_true x0
             have x0d : decide (x.toNat = 0) = false := decide_eq_false (by omega)
             have W1 := Am (pv_rm x l0_2.length HD.out.2.1 x0 hml2)
             have p2 : 0 ≤ wrap64 (x - 1) := by have := W1.out; omega
             have q2 : wrap64 (x - 1) < (l0_2.length : Int) := by have := W1.out; have := HD.out.2.1; omega
             obtain ⟨ad2, ea2, hy0, _, _, _⟩ := at_T36 HR2.out (wrap64 (x - 1)) p2 q2
             obtain rfl : ad = ad2 := by injection ea2
             clear ea2 x0
             replace p2 := eq_true p2
             replace q2 := eq_true q2
             generalize hp : (rd_T36 l0_2 (wrap64 (x - 1))).f0 = pv at hy0
             rw [W1.out] at hp
             have HPV := Am hp
             have HY := Am hy0
             clear hp hy0
             by_cases g2 : a ≤ pv
             ·
              have g2b : decide (a ≤ pv) = true := decide_eq_true g2
              clear g2
              have HX := Am (rPreG_false (ps := l0_1) (gs := l0_2) (i := x.toNat) (by rw [HOK.out, HFA.out, HFM.out, HFQ.out, g1b, x0d, HPV.out, g2b]; first | rfl | simp) l0_2.length HD.out.2.2)
              refine start_ (n := 43) (S := fun w' => w'.cell? ⟨wr.heap.size, 0, none⟩ = some (.int .i64 a) ∧ w'.cell? ⟨wr.heap.size, 1, none⟩ = some (.int .i64 s) ∧ w'.cell? ⟨wr.heap.size, 2, none⟩ = some (.int .i64 m) ∧ w'.cell? ⟨wr.heap.size, 3, none⟩ = some (.int .i64 q) ∧ w'.cell? ⟨w.heap.size, 0, none⟩ = some (.int .i64 a0_0) ∧ w'.cell? ⟨w.heap.size, 1, none⟩ = some (.slice A0_1 l0_1.length c0_1) ∧ w'.cell? ⟨w.heap.size, 2, none⟩ = some (.slice (some ad) l0_2.length c0_2) ∧ w'.cell? (ad.add ((wrap64 (x - 1)).toNat * 4)) = some (.int .i64 pv) ∧ RmAt w w' w.heap.size wr.heap.size #[.int .i64 a0_0, .slice A0_1 l0_1.length c0_1, .slice (some ad) l0_2.length c0_2] #[.int .i64 a, .int .i64 s, .int .i64 m, .int .i64 q]) (ds := []) q10_0 (by kernel_rfl) rfl rfl ⟨HM.out.drew.e 0 rfl, HM.out.drew.e 1 rfl, HM.out.drew.e 2 rfl, HM.out.drew.e 3 rfl, HM.out.drew.b 0 rfl, HM.out.drew.b 1 rfl, HM.out.drew.b 2 rfl, HM.out.drew.old HY.out, HM.out.drew⟩ (fun hHeld => ?_)
              refine with_tabW shuttlecockref08_May.tab13 shuttlecockref08_May.bits13 (fun HT_ HW_ => ?_)
              refine Own.pr_ 0 (some 70) q10_1 HT_ (h := ?_)
              refine Own.tk_ 1 (some 71) q10_2 HT_ HW_ hHeld (hy := by rintro w' ⟨s0, s1, s2, s3, s4, s5, s6, s7, s8⟩; go_simp; with_reducible rfl) (h := ?_)
              refine one_ (i := 2) (N := some 72) q10_3 rfl rfl (one_of HT_.out (by kernel_rfl)) (by decide) (fun K hK => ?_)
              refine goes_ Try.func26 (by kernel_rfl) rfl #[.int .i64 a] (by rfl) rfl rfl (by (try simp only [List.map_toArray, List.map_cons, List.map_nil]); first | done | rfl | (simp only [List.length_drop, List.length_take]; rfl)) ?_
              with_reducible refine (RmAt.fits hHeld.2.2.2.2.2.2.2.2 a HFA.out).mono ?_
              rintro e w4 ⟨rfl, HJ⟩
              refine ⟨_, rfl, ?_⟩
              refine hK.out _ _ ⟨HJ.e 0 rfl, HJ.e 1 rfl, HJ.e 2 rfl, HJ.e 3 rfl, HJ.b 0 rfl, HJ.b 1 rfl, HJ.b 2 rfl, HJ.old HY.out, HJ⟩ (fun hHeld => ?_)
              clear hK K
              refine norm_ (a' := ?_) ?_ ?_
              rotate_left
              ·
               show Act.put _ (some 72) _ = _
               simp only [Act.put, sI, sZ, sS, i64_w, i32_w]
               rfl
              refine Own.pr_ 3 (some 73) q10_4 HT_ (h := ?_)
              refine Own.pr_ 4 (some 74) q10_5 HT_ (h := ?_)
              refine Own.pr_ 5 (some 75) q10_20 HT_ (h := ?_)
              refine Own.tk_ 6 (some 76) q10_21 HT_ HW_ hHeld (hy := by rintro w' ⟨s0, s1, s2, s3, s4, s5, s6, s7, s8⟩; go_simp; with_reducible rfl) (h := ?_)
              refine one_ (i := 7) (N := some 77) q10_22 rfl rfl (one_of HT_.out (by kernel_rfl)) (by decide) (fun K hK => ?_)
              refine goes_ Try.func26 (by kernel_rfl) rfl #[.int .i64 m] (by rfl) rfl rfl (by (try simp only [List.map_toArray, List.map_cons, List.map_nil]); first | done | rfl | (simp only [List.length_drop, List.length_take]; rfl)) ?_
              with_reducible refine (RmAt.fits hHeld.2.2.2.2.2.2.2.2 m HFM.out).mono ?_
              rintro e w5 ⟨rfl, HJ⟩
              refine ⟨_, rfl, ?_⟩
              refine hK.out _ _ ⟨HJ.e 0 rfl, HJ.e 1 rfl, HJ.e 2 rfl, HJ.e 3 rfl, HJ.b 0 rfl, HJ.b 1 rfl, HJ.b 2 rfl, HJ.old HY.out, HJ⟩ (fun hHeld => ?_)
              clear hK K
              refine norm_ (a' := ?_) ?_ ?_
              rotate_left
              ·
               show Act.put _ (some 77) _ = _
               simp only [Act.put, sI, sZ, sS, i64_w, i32_w]
               rfl
              refine Own.pr_ 8 (some 78) q10_6 HT_ (h := ?_)
              refine Own.pr_ 9 (some 79) q10_7 HT_ (h := ?_)
              refine Own.pr_ 10 (some 80) q10_8 HT_ (h := ?_)
              refine Own.pr_ 11 (some 81) q10_23 HT_ (h := ?_)
              refine Own.tk_ 12 (some 82) q10_24 HT_ HW_ hHeld (hy := by rintro w' ⟨s0, s1, s2, s3, s4, s5, s6, s7, s8⟩; go_simp; with_reducible rfl) (h := ?_)
              refine one_ (i := 13) (N := some 83) q10_25 rfl rfl (one_of HT_.out (by kernel_rfl)) (by decide) (fun K hK => ?_)
              refine goes_ Try.func26 (by kernel_rfl) rfl #[.int .i64 q] (by rfl) rfl rfl (by (try simp only [List.map_toArray, List.map_cons, List.map_nil]); first | done | rfl | (simp only [List.length_drop, List.length_take]; rfl)) ?_
              with_reducible refine (RmAt.fits hHeld.2.2.2.2.2.2.2.2 q HFQ.out).mono ?_
              rintro e w6 ⟨rfl, HJ⟩
              refine ⟨_, rfl, ?_⟩
              refine hK.out _ _ ⟨HJ.e 0 rfl, HJ.e 1 rfl, HJ.e 2 rfl, HJ.e 3 rfl, HJ.b 0 rfl, HJ.b 1 rfl, HJ.b 2 rfl, HJ.old HY.out, HJ⟩ (fun hHeld => ?_)
              clear hK K
              refine norm_ (a' := ?_) ?_ ?_
              rotate_left
              ·
               show Act.put _ (some 83) _ = _
               simp only [Act.put, sI, sZ, sS, i64_w, i32_w]
               rfl
              refine Own.pr_ 14 (some 84) q10_9 HT_ (h := ?_)
              refine Own.pr_ 15 (some 85) q10_10 HT_ (h := ?_)
              refine Own.pr_ 16 (some 86) q10_11 HT_ (h := ?_)
              refine Own.pr_ 17 (some 87) q10_26 HT_ (h := ?_)
              refine Own.tk_ 18 (some 88) q10_27 HT_ HW_ hHeld (hy := by rintro w' ⟨s0, s1, s2, s3, s4, s5, s6, s7, s8⟩; go_simp; with_reducible rfl) (h := ?_)
              refine Own.pr_ 19 (some 89) q10_12 HT_ (h := ?_)
              refine Own.pr_ 20 (some 90) q10_13 HT_ (h := ?_)
              refine Own.pr_ 21 (some 91) q10_14 HT_ (h := ?_)
              refine Own.pr_ 22 (some 92) q10_28 HT_ (h := ?_)
              refine Own.pr_ 23 (some 93) q10_29 HT_ (h := ?_)
              refine Own.pr_ 24 (some 94) q10_30 HT_ (h := ?_)
              refine Own.pr_ 25 (some 95) q10_31 HT_ (h := ?_)
              refine Own.pr_ 27 (some 97) q10_32 HT_ (h := ?_)
              refine Own.pr_ 29 (some 99) q10_33 HT_ (h := ?_)
              refine Own.pr_ 30 (some 100) q10_34 HT_ (h := ?_)
              refine Own.tk_ 26 (some 96) q10_35 HT_ HW_ hHeld (hy := by rintro w' ⟨s0, s1, s2, s3, s4, s5, s6, s7, s8⟩; go_simp; with_reducible rfl) (h := ?_)
              refine Own.tk_ 28 (some 98) q10_36 HT_ HW_ hHeld (hy := by rintro w' ⟨s0, s1, s2, s3, s4, s5, s6, s7, s8⟩; go_simp; with_reducible rfl) (h := ?_)
              refine Own.pr_ 31 (some 101) q10_37 HT_ (h := ?_)
              refine Own.pr_ 32 (some 102) q10_38 HT_ (h := ?_)
              refine Own.tk_ 33 (some 103) q10_39 HT_ HW_ hHeld (hy := by rintro w' ⟨s0, s1, s2, s3, s4, s5, s6, s7, s8⟩; go_simp; with_reducible rfl) (h := ?_)
              refine Own.pr_ 34 (some 104) q10_40 HT_ (h := ?_)
              refine Own.pr_ 35 (some 105) q10_15 HT_ (h := ?_)
              refine Own.pr_ 36 (some 106) q10_16 HT_ (h := ?_)
              refine Own.pr_ 37 (some 107) q10_17 HT_ (h := ?_)
              refine Own.skips_ HT_.out [38, 39, 40, 41] [some 108, some 109, some 110, some 111] 1 5 _ q10_18 _ ?_ _ rfl (by kernel_rfl) (fun _ _ _ _ h => h) (by kernel_rfl) ?_ ?_
              rotate_left
              ·
               simp only [Own.putU, Act.put, sI, sZ, sS]
               rfl
              refine Own.pr_ 42 (some 112) q10_19 HT_ (h := ?_)
              refine done_ (done_of HT_.out (by kernel_rfl)) ?_
              have HB8 := Am (hHeld.2.2.2.2.2.2.2.2.1)
              have HBX8 := Am (hHeld.2.2.2.2.2.2.2.2.2.1)
              clear hHeld
              go_wp2
              go_ret
              exact ⟨by rw [HXG.out, HX.out]; rfl, HB8.out⟩
             ·
              have g2b : decide (a ≤ pv) = false := decide_eq_false g2
              clear g2
              obtain ⟨t, ht⟩ : ∃ t, rightB l0_1 l0_2 s m = t := ⟨_, rfl⟩
              have HRT := Am ht
              clear ht
              refine start_ (n := 43) (S := fun w' => w'.cell? ⟨wr.heap.size, 0, none⟩ = some (.int .i64 a) ∧ w'.cell? ⟨wr.heap.size, 1, none⟩ = some (.int .i64 s) ∧ w'.cell? ⟨wr.heap.size, 2, none⟩ = some (.int .i64 m) ∧ w'.cell? ⟨wr.heap.size, 3, none⟩ = some (.int .i64 q) ∧ w'.cell? ⟨w.heap.size, 0, none⟩ = some (.int .i64 a0_0) ∧ w'.cell? ⟨w.heap.size, 1, none⟩ = some (.slice A0_1 l0_1.length c0_1) ∧ w'.cell? ⟨w.heap.size, 2, none⟩ = some (.slice (some ad) l0_2.length c0_2) ∧ w'.cell? (ad.add ((wrap64 (x - 1)).toNat * 4)) = some (.int .i64 pv) ∧ RmAt w w' w.heap.size wr.heap.size #[.int .i64 a0_0, .slice A0_1 l0_1.length c0_1, .slice (some ad) l0_2.length c0_2] #[.int .i64 a, .int .i64 s, .int .i64 m, .int .i64 q]) (ds := []) q10_0 (by kernel_rfl) rfl rfl ⟨HM.out.drew.e 0 rfl, HM.out.drew.e 1 rfl, HM.out.drew.e 2 rfl, HM.out.drew.e 3 rfl, HM.out.drew.b 0 rfl, HM.out.drew.b 1 rfl, HM.out.drew.b 2 rfl, HM.out.drew.old HY.out, HM.out.drew⟩ (fun hHeld => ?_)
              refine with_tabW shuttlecockref08_May.tab13 shuttlecockref08_May.bits13 (fun HT_ HW_ => ?_)
              refine Own.pr_ 0 (some 70) q10_1 HT_ (h := ?_)
              refine Own.tk_ 1 (some 71) q10_2 HT_ HW_ hHeld (hy := by rintro w' ⟨s0, s1, s2, s3, s4, s5, s6, s7, s8⟩; go_simp; with_reducible rfl) (h := ?_)
              refine one_ (i := 2) (N := some 72) q10_3 rfl rfl (one_of HT_.out (by kernel_rfl)) (by decide) (fun K hK => ?_)
              refine goes_ Try.func26 (by kernel_rfl) rfl #[.int .i64 a] (by rfl) rfl rfl (by (try simp only [List.map_toArray, List.map_cons, List.map_nil]); first | done | rfl | (simp only [List.length_drop, List.length_take]; rfl)) ?_
              with_reducible refine (RmAt.fits hHeld.2.2.2.2.2.2.2.2 a HFA.out).mono ?_
              rintro e w4 ⟨rfl, HJ⟩
              refine ⟨_, rfl, ?_⟩
              refine hK.out _ _ ⟨HJ.e 0 rfl, HJ.e 1 rfl, HJ.e 2 rfl, HJ.e 3 rfl, HJ.b 0 rfl, HJ.b 1 rfl, HJ.b 2 rfl, HJ.old HY.out, HJ⟩ (fun hHeld => ?_)
              clear hK K
              refine norm_ (a' := ?_) ?_ ?_
              rotate_left
              ·
               show Act.put _ (some 72) _ = _
               simp only [Act.put, sI, sZ, sS, i64_w, i32_w]
               rfl
              refine Own.pr_ 3 (some 73) q10_4 HT_ (h := ?_)
              refine Own.pr_ 4 (some 74) q10_5 HT_ (h := ?_)
              refine Own.pr_ 5 (some 75) q10_20 HT_ (h := ?_)
              refine Own.tk_ 6 (some 76) q10_21 HT_ HW_ hHeld (hy := by rintro w' ⟨s0, s1, s2, s3, s4, s5, s6, s7, s8⟩; go_simp; with_reducible rfl) (h := ?_)
              refine one_ (i := 7) (N := some 77) q10_22 rfl rfl (one_of HT_.out (by kernel_rfl)) (by decide) (fun K hK => ?_)
              refine goes_ Try.func26 (by kernel_rfl) rfl #[.int .i64 m] (by rfl) rfl rfl (by (try simp only [List.map_toArray, List.map_cons, List.map_nil]); first | done | rfl | (simp only [List.length_drop, List.length_take]; rfl)) ?_
              with_reducible refine (RmAt.fits hHeld.2.2.2.2.2.2.2.2 m HFM.out).mono ?_
              rintro e w5 ⟨rfl, HJ⟩
              refine ⟨_, rfl, ?_⟩
              refine hK.out _ _ ⟨HJ.e 0 rfl, HJ.e 1 rfl, HJ.e 2 rfl, HJ.e 3 rfl, HJ.b 0 rfl, HJ.b 1 rfl, HJ.b 2 rfl, HJ.old HY.out, HJ⟩ (fun hHeld => ?_)
              clear hK K
              refine norm_ (a' := ?_) ?_ ?_
              rotate_left
              ·
               show Act.put _ (some 77) _ = _
               simp only [Act.put, sI, sZ, sS, i64_w, i32_w]
               rfl
              refine Own.pr_ 8 (some 78) q10_6 HT_ (h := ?_)
              refine Own.pr_ 9 (some 79) q10_7 HT_ (h := ?_)
              refine Own.pr_ 10 (some 80) q10_8 HT_ (h := ?_)
              refine Own.pr_ 11 (some 81) q10_23 HT_ (h := ?_)
              refine Own.tk_ 12 (some 82) q10_24 HT_ HW_ hHeld (hy := by rintro w' ⟨s0, s1, s2, s3, s4, s5, s6, s7, s8⟩; go_simp; with_reducible rfl) (h := ?_)
              refine one_ (i := 13) (N := some 83) q10_25 rfl rfl (one_of HT_.out (by kernel_rfl)) (by decide) (fun K hK => ?_)
              refine goes_ Try.func26 (by kernel_rfl) rfl #[.int .i64 q] (by rfl) rfl rfl (by (try simp only [List.map_toArray, List.map_cons, List.map_nil]); first | done | rfl | (simp only [List.length_drop, List.length_take]; rfl)) ?_
              with_reducible refine (RmAt.fits hHeld.2.2.2.2.2.2.2.2 q HFQ.out).mono ?_
              rintro e w6 ⟨rfl, HJ⟩
              refine ⟨_, rfl, ?_⟩
              refine hK.out _ _ ⟨HJ.e 0 rfl, HJ.e 1 rfl, HJ.e 2 rfl, HJ.e 3 rfl, HJ.b 0 rfl, HJ.b 1 rfl, HJ.b 2 rfl, HJ.old HY.out, HJ⟩ (fun hHeld => ?_)
              clear hK K
              refine norm_ (a' := ?_) ?_ ?_
              rotate_left
              ·
               show Act.put _ (some 83) _ = _
               simp only [Act.put, sI, sZ, sS, i64_w, i32_w]
               rfl
              refine Own.pr_ 14 (some 84) q10_9 HT_ (h := ?_)
              refine Own.pr_ 15 (some 85) q10_10 HT_ (h := ?_)
              refine Own.pr_ 16 (some 86) q10_11 HT_ (h := ?_)
              refine Own.pr_ 17 (some 87) q10_26 HT_ (h := ?_)
              refine Own.tk_ 18 (some 88) q10_27 HT_ HW_ hHeld (hy := by rintro w' ⟨s0, s1, s2, s3, s4, s5, s6, s7, s8⟩; go_simp; with_reducible rfl) (h := ?_)
              refine Own.pr_ 19 (some 89) q10_12 HT_ (h := ?_)
              refine Own.pr_ 20 (some 90) q10_13 HT_ (h := ?_)
              refine Own.pr_ 21 (some 91) q10_14 HT_ (h := ?_)
              refine Own.pr_ 22 (some 92) q10_28 HT_ (h := ?_)
              refine Own.pr_ 23 (some 93) q10_29 HT_ (h := ?_)
              refine Own.pr_ 24 (some 94) q10_30 HT_ (h := ?_)
              refine Own.pr_ 25 (some 95) q10_31 HT_ (h := ?_)
              refine Own.pr_ 27 (some 97) q10_32 HT_ (h := ?_)
              refine Own.pr_ 29 (some 99) q10_33 HT_ (h := ?_)
              refine Own.pr_ 30 (some 100) q10_34 HT_ (h := ?_)
              refine Own.tk_ 26 (some 96) q10_35 HT_ HW_ hHeld (hy := by rintro w' ⟨s0, s1, s2, s3, s4, s5, s6, s7, s8⟩; go_simp; with_reducible rfl) (h := ?_)
              refine Own.tk_ 28 (some 98) q10_36 HT_ HW_ hHeld (hy := by rintro w' ⟨s0, s1, s2, s3, s4, s5, s6, s7, s8⟩; go_simp; with_reducible rfl) (h := ?_)
              refine Own.pr_ 31 (some 101) q10_37 HT_ (h := ?_)
              refine Own.pr_ 32 (some 102) q10_38 HT_ (h := ?_)
              refine Own.tk_ 33 (some 103) q10_39 HT_ HW_ hHeld (hy := by rintro w' ⟨s0, s1, s2, s3, s4, s5, s6, s7, s8⟩; go_simp; with_reducible rfl) (h := ?_)
              refine Own.pr_ 34 (some 104) q10_40 HT_ (h := ?_)
              refine Own.pr_ 35 (some 105) q10_15 HT_ (h := ?_)
              refine Own.pr_ 36 (some 106) q10_16 HT_ (h := ?_)
              refine Own.pr_ 37 (some 107) q10_17 HT_ (h := ?_)
              refine Own.tk_ 38 (some 108) q10_41 HT_ HW_ hHeld (hy := by rintro w' ⟨s0, s1, s2, s3, s4, s5, s6, s7, s8⟩; go_simp; with_reducible rfl) (h := ?_)
              refine Own.tk_ 39 (some 109) q10_42 HT_ HW_ hHeld (hy := by rintro w' ⟨s0, s1, s2, s3, s4, s5, s6, s7, s8⟩; go_simp; with_reducible rfl) (h := ?_)
              refine one_ (i := 40) (N := some 110) q10_43 rfl rfl (one_of HT_.out (by kernel_rfl)) (by decide) (fun K hK => ?_)
              refine goes_ Try.func27 (by kernel_rfl) rfl #[.agg #[.int .i64 a0_0, .slice A0_1 l0_1.length c0_1, .slice (some ad) l0_2.length c0_2], .agg #[.int .i64 a, .int .i64 s, .int .i64 m, .int .i64 q]] (by rfl) rfl rfl (by (try simp only [List.map_toArray, List.map_cons, List.map_nil]); first | done | rfl | (simp only [List.length_drop, List.length_take]; rfl)) ?_
              with_reducible refine (RmAt.right hHeld.2.2.2.2.2.2.2.2 HR1.out HC1.out HR2.out HC2.out a0_0 a s m q HRT.out).mono ?_
              rintro e w7 ⟨rfl, HJ⟩
              refine ⟨_, rfl, ?_⟩
              refine hK.out _ _ ⟨HJ.e 0 rfl, HJ.e 1 rfl, HJ.e 2 rfl, HJ.e 3 rfl, HJ.b 0 rfl, HJ.b 1 rfl, HJ.b 2 rfl, HJ.old HY.out, HJ⟩ (fun hHeld => ?_)
              clear hK K
              refine norm_ (a' := ?_) ?_ ?_
              rotate_left
              ·
               show Act.put _ (some 110) _ = _
               simp only [Act.put, sI, sZ, sS, i64_w, i32_w]
               rfl
              refine Own.pr_ 41 (some 111) q10_18 HT_ (h := ?_)
              refine Own.pr_ 42 (some 112) q10_19 HT_ (h := ?_)
              refine done_ (done_of HT_.out (by kernel_rfl)) ?_
              have HB8 := Am (hHeld.2.2.2.2.2.2.2.2.1)
              have HBX8 := Am (hHeld.2.2.2.2.2.2.2.2.2.1)
              clear hHeld
              cases t with
              | false =>
               have HX := Am (rPreG_false (ps := l0_1) (gs := l0_2) (i := x.toNat) (by rw [HOK.out, HFA.out, HFM.out, HFQ.out, g1b, x0d, HPV.out, g2b, HRT.out]; first | rfl | simp) l0_2.length HD.out.2.2)
               go_wp2
               go_ret
               exact ⟨by rw [HXG.out, HX.out]; rfl, HB8.out⟩
              | true =>
               have HNX := Am (show rPreG l0_1 l0_2 (x.toNat + 1) = true by
                unfold rPreG
                rw [HA.out.2.2.2, HOK.out, HFA.out, HFM.out, HFQ.out, g1b, x0d, HPV.out, g2b, HRT.out]; first | rfl | simp)
               go_wp2
               go_roundg k1
               case rel =>
                have e1 : wrap64 (x + 1) = x + 1 := nx_rm x l0_2.length HD.out.2.1 HA.out.1 hml2
                have e2 : (x + 1).toNat = x.toNat + 1 := by have := HA.out.1; omega
                exact ⟨_, rfl, ⟨by have := HA.out; rw [e1]; omega, by have := HD.out; rw [e1]; omega, by have := HA.out; rw [e1]; omega, by rw [e1, e2]; exact HNX.out⟩, HB8, HBX8⟩
               case measure => exact Nat.lt_succ_self _
            ·
             have x0b : decide (0 < x) = false := decide_eq_false x0
             have x0d : decide (x.toNat = 0) = true := decide_eq_true (by have := HA.out.1; omega)
             clear x0
             obtain ⟨t, ht⟩ : ∃ t, rightB l0_1 l0_2 s m = t := ⟨_, rfl⟩
             have HRT := Am ht
             clear ht
             refine start_ (n := 43) (S := fun w' => w'.cell? ⟨wr.heap.size, 0, none⟩ = some (.int .i64 a) ∧ w'.cell? ⟨wr.heap.size, 1, none⟩ = some (.int .i64 s) ∧ w'.cell? ⟨wr.heap.size, 2, none⟩ = some (.int .i64 m) ∧ w'.cell? ⟨wr.heap.size, 3, none⟩ = some (.int .i64 q) ∧ w'.cell? ⟨w.heap.size, 0, none⟩ = some (.int .i64 a0_0) ∧ w'.cell? ⟨w.heap.size, 1, none⟩ = some (.slice A0_1 l0_1.length c0_1) ∧ w'.cell? ⟨w.heap.size, 2, none⟩ = some (.slice (some ad) l0_2.length c0_2) ∧ RmAt w w' w.heap.size wr.heap.size #[.int .i64 a0_0, .slice A0_1 l0_1.length c0_1, .slice (some ad) l0_2.length c0_2] #[.int .i64 a, .int .i64 s, .int .i64 m, .int .i64 q]) (ds := []) q10_0 (by kernel_rfl) rfl rfl ⟨HM.out.drew.e 0 rfl, HM.out.drew.e 1 rfl, HM.out.drew.e 2 rfl, HM.out.drew.e 3 rfl, HM.out.drew.b 0 rfl, HM.out.drew.b 1 rfl, HM.out.drew.b 2 rfl, HM.out.drew⟩ (fun hHeld => ?_)
             refine with_tabW shuttlecockref08_May.tab13 shuttlecockref08_May.bits13 (fun HT_ HW_ => ?_)
             refine Own.pr_ 0 (some 70) q10_1 HT_ (h := ?_)
             refine Own.tk_ 1 (some 71) q10_2 HT_ HW_ hHeld (hy := by rintro w' ⟨s0, s1, s2, s3, s4, s5, s6, s7⟩; go_simp; with_reducible rfl) (h := ?_)
             refine one_ (i := 2) (N := some 72) q10_3 rfl rfl (one_of HT_.out (by kernel_rfl)) (by decide) (fun K hK => ?_)
             refine goes_ Try.func26 (by kernel_rfl) rfl #[.int .i64 a] (by rfl) rfl rfl (by (try simp only [List.map_toArray, List.map_cons, List.map_nil]); first | done | rfl | (simp only [List.length_drop, List.length_take]; rfl)) ?_
             with_reducible refine (RmAt.fits hHeld.2.2.2.2.2.2.2 a HFA.out).mono ?_
             rintro e w4 ⟨rfl, HJ⟩
             refine ⟨_, rfl, ?_⟩
             refine hK.out _ _ ⟨HJ.e 0 rfl, HJ.e 1 rfl, HJ.e 2 rfl, HJ.e 3 rfl, HJ.b 0 rfl, HJ.b 1 rfl, HJ.b 2 rfl, HJ⟩ (fun hHeld => ?_)
             clear hK K
             refine norm_ (a' := ?_) ?_ ?_
             rotate_left
             ·
              show Act.put _ (some 72) _ = _
              simp only [Act.put, sI, sZ, sS, i64_w, i32_w]
              rfl
             refine Own.pr_ 3 (some 73) q10_4 HT_ (h := ?_)
             refine Own.pr_ 4 (some 74) q10_5 HT_ (h := ?_)
             refine Own.pr_ 5 (some 75) q10_20 HT_ (h := ?_)
             refine Own.tk_ 6 (some 76) q10_21 HT_ HW_ hHeld (hy := by rintro w' ⟨s0, s1, s2, s3, s4, s5, s6, s7⟩; go_simp; with_reducible rfl) (h := ?_)
             refine one_ (i := 7) (N := some 77) q10_22 rfl rfl (one_of HT_.out (by kernel_rfl)) (by decide) (fun K hK => ?_)
             refine goes_ Try.func26 (by kernel_rfl) rfl #[.int .i64 m] (by rfl) rfl rfl (by (try simp only [List.map_toArray, List.map_cons, List.map_nil]); first | done | rfl | (simp only [List.length_drop, List.length_take]; rfl)) ?_
             with_reducible refine (RmAt.fits hHeld.2.2.2.2.2.2.2 m HFM.out).mono ?_
             rintro e w5 ⟨rfl, HJ⟩
             refine ⟨_, rfl, ?_⟩
             refine hK.out _ _ ⟨HJ.e 0 rfl, HJ.e 1 rfl, HJ.e 2 rfl, HJ.e 3 rfl, HJ.b 0 rfl, HJ.b 1 rfl, HJ.b 2 rfl, HJ⟩ (fun hHeld => ?_)
             clear hK K
             refine norm_ (a' := ?_) ?_ ?_
             rotate_left
             ·
              show Act.put _ (some 77) _ = _
              simp only [Act.put, sI, sZ, sS, i64_w, i32_w]
              rfl
             refine Own.pr_ 8 (some 78) q10_6 HT_ (h := ?_)
             refine Own.pr_ 9 (some 79) q10_7 HT_ (h := ?_)
             refine Own.pr_ 10 (some 80) q10_8 HT_ (h := ?_)
             refine Own.pr_ 11 (some 81) q10_23 HT_ (h := ?_)
             refine Own.tk_ 12 (some 82) q10_24 HT_ HW_ hHeld (hy := by rintro w' ⟨s0, s1, s2, s3, s4, s5, s6, s7⟩; go_simp; with_reducible rfl) (h := ?_)
             refine one_ (i := 13) (N := some 83) q10_25 rfl rfl (one_of HT_.out (by kernel_rfl)) (by decide) (fun K hK => ?_)
             refine goes_ Try.func26 (by kernel_rfl) rfl #[.int .i64 q] (by rfl) rfl rfl (by (try simp only [List.map_toArray, List.map_cons, List.map_nil]); first | done | rfl | (simp only [List.length_drop, List.length_take]; rfl)) ?_
             with_reducible refine (RmAt.fits hHeld.2.2.2.2.2.2.2 q HFQ.out).mono ?_
             rintro e w6 ⟨rfl, HJ⟩
             refine ⟨_, rfl, ?_⟩
             refine hK.out _ _ ⟨HJ.e 0 rfl, HJ.e 1 rfl, HJ.e 2 rfl, HJ.e 3 rfl, HJ.b 0 rfl, HJ.b 1 rfl, HJ.b 2 rfl, HJ⟩ (fun hHeld => ?_)
             clear hK K
             refine norm_ (a' := ?_) ?_ ?_
             rotate_left
             ·
              show Act.put _ (some 83) _ = _
              simp only [Act.put, sI, sZ, sS, i64_w, i32_w]
              rfl
             refine Own.pr_ 14 (some 84) q10_9 HT_ (h := ?_)
             refine Own.pr_ 15 (some 85) q10_10 HT_ (h := ?_)
             refine Own.pr_ 16 (some 86) q10_11 HT_ (h := ?_)
             refine Own.pr_ 17 (some 87) q10_26 HT_ (h := ?_)
             refine Own.tk_ 18 (some 88) q10_27 HT_ HW_ hHeld (hy := by rintro w' ⟨s0, s1, s2, s3, s4, s5, s6, s7⟩; go_simp; with_reducible rfl) (h := ?_)
             refine Own.pr_ 19 (some 89) q10_12 HT_ (h := ?_)
             refine Own.pr_ 20 (some 90) q10_13 HT_ (h := ?_)
             refine Own.pr_ 21 (some 91) q10_14 HT_ (h := ?_)
             refine Own.pr_ 22 (some 92) q10_28 HT_ (h := ?_)
             refine Own.pr_ 23 (some 93) q10_29 HT_ (h := ?_)
             refine Own.pr_ 24 (some 94) q10_30 HT_ (h := ?_)
             refine Own.skips_ HT_.out [25, 26, 27, 28, 29, 30, 31, 32, 33, 34] [some 95, some 96, some 97, some 98, some 99, some 100, some 101, some 102, some 103, some 104] 8 18 _ q10_40 _ ?_ _ rfl (by kernel_rfl) (fun _ _ _ _ h => h) (by kernel_rfl) ?_ ?_
             rotate_left
             ·
              simp only [Own.putU, Act.put, sI, sZ, sS]
              rfl
             refine Own.pr_ 35 (some 105) q10_15 HT_ (h := ?_)
             refine Own.pr_ 36 (some 106) q10_16 HT_ (h := ?_)
             refine Own.pr_ 37 (some 107) q10_17 HT_ (h := ?_)
             refine Own.tk_ 38 (some 108) q10_41 HT_ HW_ hHeld (hy := by rintro w' ⟨s0, s1, s2, s3, s4, s5, s6, s7⟩; go_simp; with_reducible rfl) (h := ?_)
             refine Own.tk_ 39 (some 109) q10_42 HT_ HW_ hHeld (hy := by rintro w' ⟨s0, s1, s2, s3, s4, s5, s6, s7⟩; go_simp; with_reducible rfl) (h := ?_)
             refine one_ (i := 40) (N := some 110) q10_43 rfl rfl (one_of HT_.out (by kernel_rfl)) (by decide) (fun K hK => ?_)
             refine goes_ Try.func27 (by kernel_rfl) rfl #[.agg #[.int .i64 a0_0, .slice A0_1 l0_1.length c0_1, .slice (some ad) l0_2.length c0_2], .agg #[.int .i64 a, .int .i64 s, .int .i64 m, .int .i64 q]] (by rfl) rfl rfl (by (try simp only [List.map_toArray, List.map_cons, List.map_nil]); first | done | rfl | (simp only [List.length_drop, List.length_take]; rfl)) ?_
             with_reducible refine (RmAt.right hHeld.2.2.2.2.2.2.2 HR1.out HC1.out HR2.out HC2.out a0_0 a s m q HRT.out).mono ?_
             rintro e w7 ⟨rfl, HJ⟩
             refine ⟨_, rfl, ?_⟩
             refine hK.out _ _ ⟨HJ.e 0 rfl, HJ.e 1 rfl, HJ.e 2 rfl, HJ.e 3 rfl, HJ.b 0 rfl, HJ.b 1 rfl, HJ.b 2 rfl, HJ⟩ (fun hHeld => ?_)
             clear hK K
             refine norm_ (a' := ?_) ?_ ?_
             rotate_left
             ·
              show Act.put _ (some 110) _ = _
              simp only [Act.put, sI, sZ, sS, i64_w, i32_w]
              rfl
             refine Own.pr_ 41 (some 111) q10_18 HT_ (h := ?_)
             refine Own.pr_ 42 (some 112) q10_19 HT_ (h := ?_)
             refine done_ (done_of HT_.out (by kernel_rfl)) ?_
             have HB8 := Am (hHeld.2.2.2.2.2.2.2.1)
             have HBX8 := Am (hHeld.2.2.2.2.2.2.2.2.1)
             clear hHeld
             cases t with
             | false =>
              have HX := Am (rPreG_false (ps := l0_1) (gs := l0_2) (i := x.toNat) (by rw [HOK.out, HFA.out, HFM.out, HFQ.out, g1b, x0d, HRT.out]; first | rfl | simp) l0_2.length HD.out.2.2)
              go_wp2
              go_ret
              exact ⟨by rw [HXG.out, HX.out]; rfl, HB8.out⟩
             | true =>
              have HNX := Am (show rPreG l0_1 l0_2 (x.toNat + 1) = true by
               unfold rPreG
               rw [HA.out.2.2.2, HOK.out, HFA.out, HFM.out, HFQ.out, g1b, x0d, HRT.out]; first | rfl | simp)
              go_wp2
              go_roundg k1
              case rel =>
               have e1 : wrap64 (x + 1) = x + 1 := nx_rm x l0_2.length HD.out.2.1 HA.out.1 hml2
               have e2 : (x + 1).toNat = x.toNat + 1 := by have := HA.out.1; omega
               exact ⟨_, rfl, ⟨by have := HA.out; rw [e1]; omega, by have := HD.out; rw [e1]; omega, by have := HA.out; rw [e1]; omega, by rw [e1, e2]; exact HNX.out⟩, HB8, HBX8⟩
              case measure => exact Nat.lt_succ_self _
       ·
        have d1b : decide (x < (l0_2.length : Int)) = false := decide_eq_false d1
        have HPG := Am (show rPreG l0_1 l0_2 l0_2.length = true by
         have := HA.out.2.2.2
         rwa [show x.toNat = l0_2.length by have := HA.out.2.1; omega] at this)
        clear d1
        go_wp2
        go_ret
        exact ⟨by rw [HXG.out, HPG.out]; rfl, HB.out⟩

end Go.Proofs.Ythfdhoegboeaeaa.Q
