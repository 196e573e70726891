-- printed by a program of this session (NOTES: hprint); not the kit's print
-- minified
-- halved
import Derived.Test.YtfcombimnmkoeaaAl
import Derived.Test.YtfcombimnmkoeaaQx0
import Derived.Test.YtfcombimnmkoeaaQx2
import Derived.Test.YtfcombimnmkoeaaQx6
import Derived.Test.YtfcombimnmkoeaaQx22
namespace Go.Proofs.Ytfcombimnmkoeaa.Q
open Go.RowKit Go.Proofs.YtfcombimnmkoeaaW.PrintWords Go.Proofs.YtfcombimnmkoeaaW.PrintLast Go.Proofs.YtfcombimnmkoeaaW.PrintMore
attribute [local go_sem] max2_int min2_int max_two min_two max_three min_three max_four min_four   -- for this text's walks alone
set_option linter.unusedVariables false
set_option linter.unusedSimpArgs false

def q23_0 : Array Bool := let o := true; let z := false; #[z,z,z,z,z,z,z,z,z,z,z,z,z,z]
def q23_1 : Array Bool := let o := true; let z := false; #[o,z,z,z,z,z,z,z,z,z,z,z,z,z]
def q23_2 : Array Bool := let o := true; let z := false; #[o,z,o,z,z,z,z,z,z,z,z,z,z,z]
def q23_3 : Array Bool := let o := true; let z := false; #[o,z,o,z,o,z,z,z,z,z,z,z,z,z]
def q23_4 : Array Bool := let o := true; let z := false; #[o,z,o,z,o,z,z,z,z,o,z,z,z,z]
def q23_5 : Array Bool := let o := true; let z := false; #[o,o,o,z,o,z,z,z,z,o,z,z,z,z]
def q23_6 : Array Bool := let o := true; let z := false; #[o,o,o,o,o,z,z,z,z,o,z,z,z,z]
def q23_7 : Array Bool := let o := true; let z := false; #[o,o,o,o,o,o,z,z,z,o,z,z,z,z]
def q23_8 : Array Bool := let o := true; let z := false; #[o,o,o,o,o,o,z,z,z,o,o,z,z,z]
def q23_9 : Array Bool := let o := true; let z := false; #[o,o,o,o,o,o,o,z,z,o,o,z,z,z]
def q23_10 : Array Bool := let o := true; let z := false; #[o,o,o,o,o,o,o,o,z,o,o,z,z,z]
def q23_11 : Array Bool := let o := true; let z := false; #[o,o,o,o,o,o,o,o,o,o,o,z,z,z]
def q23_12 : Array Bool := let o := true; let z := false; #[o,o,o,o,o,o,o,o,o,o,o,o,z,z]
def q23_13 : Array Bool := let o := true; let z := false; #[o,o,o,o,o,o,o,o,o,o,o,o,o,z]
def q23_14 : Array Bool := let o := true; let z := false; #[o,o,o,o,o,o,o,o,o,o,o,o,o,o]
/-! ### batch_Encode: function 15 -/
def batch_Encode.f (k : Nat) (a0_0 : Int) (a0_1 : Int) (a0_2 : Int) (a0_3 : ByteArray) : Option (ByteArray) := (batch_May.f a0_0 a0_1 a0_2 a0_3).bind fun t302 => (if t302 = true then ((wire_Nums.f k (([a0_0, a0_1, a0_2] : List Int))).bind fun t306 => (if 1 + t306.size ≤ 9223372036854775807 then ((wire_Text.f k a0_3).bind fun t307 => (if ((⟨#[66]⟩ : ByteArray) ++ t306).size + t307.size ≤ 9223372036854775807 then (some (((⟨#[66]⟩ : ByteArray) ++ t306) ++ t307)) else (none))) else (none))) else (some (⟨#[]⟩ : ByteArray)))
theorem batch_Encode.mono : ∀ a0 a1 a2 a3 k, LeO (batch_Encode.f k a0 a1 a2 a3) (batch_Encode.f (k + 1) a0 a1 a2 a3) := by
 intro a0 a1 a2 a3 k
 unfold batch_Encode.f
 repeat' first
   | (with_reducible exact wire_Nums.mono _ _)
   | (with_reducible exact wire_Text.mono _ _)
   | (with_reducible exact LeO.refl _)
   | (with_reducible exact LeO.none _)
   | (with_reducible refine LeO.ite ?_ ?_)
   | (with_reducible refine LeO.bind ?_ (fun _ => ?_))
   | exact wire_Nums.mono _ _
   | exact wire_Text.mono _ _
   | exact LeO.none _
   | refine LeO.ite ?_ ?_
   | refine LeO.bind ?_ (fun _ => ?_)
def batch_Encode.T3 : Bool × List (List Nat × List Nat) := (true, [([], []), ([0], [0]), ([], []), ([2], [2]), ([], []), ([4], [4]), ([1, 3, 5], [1, 3, 5]), ([6], [6]), ([7], [7]), ([], []), ([9], [9]), ([10, 7], [10]), ([8, 11], [8, 11]), ([12, 11, 0, 1, 2, 3, 4, 5, 6, 7, 8, 9, 10, 11, 12], [12])])
def batch_Encode.B3 : List Nat := [0, 1, 0, 4, 0, 16, 63, 127, 255, 0, 512, 1791, 4095, 8191]
theorem batch_Encode.tab3 : rtab .any (opsOf Try.f15 3) = batch_Encode.T3 := by kernel_rfl
theorem batch_Encode.bits3 : waitsOk batch_Encode.T3.2 batch_Encode.B3 = true := by kernel_rfl
set_option maxHeartbeats 8000000 in
set_option maxRecDepth 100000 in
theorem batch_Encode.calls (k : Nat) (a0_0 : Int) (a0_1 : Int) (a0_2 : Int) (a0_3 : ByteArray) (r : ByteArray) (w : World) (h : batch_Encode.f k a0_0 a0_1 a0_2 a0_3 = some r) :
  Calls Try.prog 15 #[.agg #[.int .i64 a0_0, .int .i64 a0_1, .int .i64 a0_2, .string a0_3]] w fun e w' => e = .returned (.string r) ∧ Below w.heap.size w w' := by
 have hu23 := Try.underlying23
 have HB := Am (Below.refl w.heap.size w)
 have H : ((batch_May.f a0_0 a0_1 a0_2 a0_3).bind fun t302 => (if t302 = true then ((wire_Nums.f k (([a0_0, a0_1, a0_2] : List Int))).bind fun t306 => (if 1 + t306.size ≤ 9223372036854775807 then ((wire_Text.f k a0_3).bind fun t307 => (if ((⟨#[66]⟩ : ByteArray) ++ t306).size + t307.size ≤ 9223372036854775807 then (some (((⟨#[66]⟩ : ByteArray) ++ t306) ++ t307)) else (none))) else (none))) else (some (⟨#[]⟩ : ByteArray)))) = some r := h
 clear h
 replace H := ob H
 obtain ⟨t302, A20, H⟩ := H
 replace H : (if t302 = true then ((wire_Nums.f k (([a0_0, a0_1, a0_2] : List Int))).bind fun t306 => (if 1 + t306.size ≤ 9223372036854775807 then ((wire_Text.f k a0_3).bind fun t307 => (if ((⟨#[66]⟩ : ByteArray) ++ t306).size + t307.size ≤ 9223372036854775807 then (some (((⟨#[66]⟩ : ByteArray) ++ t306) ++ t307)) else (none))) else (none))) else (some (⟨#[]⟩ : ByteArray))) = some r := H
 have A2 := Am A20
 clear A20
 by_cases c3 : t302 = true
 ·
  subst c3
  have H1 : ((wire_Nums.f k (([a0_0, a0_1, a0_2] : List Int))).bind fun t306 => (if 1 + t306.size ≤ 9223372036854775807 then ((wire_Text.f k a0_3).bind fun t307 => (if ((⟨#[66]⟩ : ByteArray) ++ t306).size + t307.size ≤ 9223372036854775807 then (some (((⟨#[66]⟩ : ByteArray) ++ t306) ++ t307)) else (none))) else (none))) = some r := by rw [if_pos rfl] at H; exact H
  clear H
  have H := H1
  clear H1
  obtain ⟨y303, hy303⟩ : ∃ y_ : List Int, y_ = (([a0_0, a0_1, a0_2] : List Int)) := ⟨_, rfl⟩
  replace H : ((wire_Nums.f k y303).bind fun t306 => (if 1 + t306.size ≤ 9223372036854775807 then ((wire_Text.f k a0_3).bind fun t307 => (if ((⟨#[66]⟩ : ByteArray) ++ t306).size + t307.size ≤ 9223372036854775807 then (some (((⟨#[66]⟩ : ByteArray) ++ t306) ++ t307)) else (none))) else (none))) = some r := by first | (rw [hy303]; with_reducible exact H) | (have H2_ := (Option.bind_some _ _).symm.trans H; rw [hy303]; with_reducible exact H2_) | (have H2_ := (Option.bind_some _ _).symm.trans H; with_reducible exact H2_) | with_reducible exact H | (rw [hy303]; exact H) | exact H
  have Ny303 := Am hy303
  clear hy303
  replace H := ob H
  obtain ⟨t306, A40, H⟩ := H
  replace H : (if 1 + t306.size ≤ 9223372036854775807 then ((wire_Text.f k a0_3).bind fun t307 => (if ((⟨#[66]⟩ : ByteArray) ++ t306).size + t307.size ≤ 9223372036854775807 then (some (((⟨#[66]⟩ : ByteArray) ++ t306) ++ t307)) else (none))) else (none)) = some r := H
  have A4 := Am A40
  clear A40
  by_cases c5 : 1 + t306.size ≤ 9223372036854775807
  ·
   rw [if_pos c5] at H
   have c5b0 := eq_true c5
   have c5b1 : decide (1 + t306.size ≤ 9223372036854775807) = true := decide_eq_true c5
   try have c5b2 : (9223372036854775807 < 1 + t306.size) = False := eq_false (Nat.not_lt.2 c5)
   replace H := ob H
   obtain ⟨t307, A60, H⟩ := H
   replace H : (if ((⟨#[66]⟩ : ByteArray) ++ t306).size + t307.size ≤ 9223372036854775807 then (some (((⟨#[66]⟩ : ByteArray) ++ t306) ++ t307)) else (none)) = some r := H
   have A6 := Am A60
   clear A60
   by_cases c7 : ((⟨#[66]⟩ : ByteArray) ++ t306).size + t307.size ≤ 9223372036854775807
   ·
    rw [if_pos c7] at H
    have c7b0 := eq_true c7
    have c7b1 : decide (((⟨#[66]⟩ : ByteArray) ++ t306).size + t307.size ≤ 9223372036854775807) = true := decide_eq_true c7
    try have c7b2 : (9223372036854775807 < ((⟨#[66]⟩ : ByteArray) ++ t306).size + t307.size) = False := eq_false (Nat.not_lt.2 c7)
    try (have c7b3 := c7b2; simp only [ByteArray.size_append] at c7b3)
    try (have c7b4 := c7b1; simp only [ByteArray.size_append] at c7b4)
    try (have c7b5 := c7b2; simp only [ByteArray.size_append, show (⟨#[66]⟩ : ByteArray).size = 1 from rfl] at c7b5)
    obtain rfl := Option.some.inj H
    go_enter Try.func15, Try.ntmps15
    try go_wp2_with (first | ((with_reducible refine gate_dst (N := 1) rfl ?_); refine box_event ?hg (N := 1) ?hd (cs := #[.int .i64 a0_0, .int .i64 a0_1, .int .i64 a0_2, .string a0_3]) (t := 23) ?hr ?_; (case hd => rfl); (case hg => rfl); (case hr => first | (go_simp; done) | (go_simp; rfl)); intro gb301 hg w8 hbox hb; have n0_ := Am (below_step (by repeat (first | (with_reducible first | exact HB.out | apply bl | apply pN | apply b1) | exact HB.out | exact HBo.out)) hb); have n1_ := Am (hbox); have n2_ := Am ((by rw [hg]; exact (below_size (by repeat (first | (with_reducible first | exact HB.out | apply bl | apply pN | apply b1) | exact HB.out | exact HBo.out))) : w.heap.size ≤ gb301)); have n3_ := Am ((by rw [hg]; exact (below_size (by repeat (first | (with_reducible first | exact HB.out | apply bl | apply pN | apply b1) | exact HB.out | exact HBo.out))) : w.heap.size ≤ gb301)); clear HB; have HB := n0_; have BK301 := n1_; have GW301 := n2_; have GE301 := n3_; clear n0_ n1_ n2_ n3_; clear hb hbox hg; have hcz9_0 : w8.cell? ⟨gb301, 0, none⟩ = some (.int .i64 a0_0) := (bc BK301.out 0).trans rfl; have hcz9_1 : w8.cell? ⟨gb301, 1, none⟩ = some (.int .i64 a0_1) := (bc BK301.out 1).trans rfl; have hcz9_2 : w8.cell? ⟨gb301, 2, none⟩ = some (.int .i64 a0_2) := (bc BK301.out 2).trans rfl; have hcz9_3 : w8.cell? ⟨gb301, 3, none⟩ = some (.string a0_3) := (bc BK301.out 3).trans rfl; have hfz9_0 := bf BK301.out 0; have hfz9_1 := bf BK301.out 1; have hfz9_2 := bf BK301.out 2; have hfz9_3 := bf BK301.out 3) | ((with_reducible refine gate_callee (f := 13) rfl ?_); refine goesL_ (some 4) rfl rfl Try.func13 (by kernel_rfl) rfl #[.agg #[.int .i64 a0_0, .int .i64 a0_1, .int .i64 a0_2, .string a0_3]] rfl (by (try simp only [List.map_toArray, List.map_cons, List.map_nil]); first | done | rfl | (simp only [List.length_drop, List.length_take]; rfl)) ?_; (with_reducible refine (batch_May.calls a0_0 a0_1 a0_2 a0_3 true _ A2.out).mono ?_); rintro e w10 ⟨rfl, hb⟩; refine ⟨_, rfl, ?_⟩; have n0_ := Am (blk_below (g := gb301) (o := .cells #[.int .i64 a0_0, .int .i64 a0_1, .int .i64 a0_2, .string a0_3] 23 (0, 0)) (by (with_reducible repeat (first | refine bn ?_ _ | refine bd ?_ | refine ba ?_ _)); exact BK301.out) hb); have n1_ := Am (below_step (by repeat (first | (with_reducible first | exact HB.out | apply bl | apply pN | apply b1 | refine bs ?_ GE301.out) | exact HB.out | exact HBo.out)) hb); clear BK301; clear HB; have BK301 := n0_; have HB := n1_; clear n0_ n1_; (try clear hb); (try clear hb2); (try clear hk); (try clear hi)))
    have n0_ := Am (bd BK301.out)
    have n1_ := Am (b1 HB.out)
    clear BK301
    clear HB
    have BK301 := n0_
    have HB := n1_
    clear n0_ n1_
    refine start_ (n := 14) (S := fun w' => w'.cell? ⟨gb301, 0, none⟩ = some (.int .i64 a0_0) ∧ w'.cell? ⟨gb301, 1, none⟩ = some (.int .i64 a0_1) ∧ w'.cell? ⟨gb301, 2, none⟩ = some (.int .i64 a0_2) ∧ w'.cell? ⟨gb301, 3, none⟩ = some (.string a0_3)) (ds := []) q23_0 (by kernel_rfl) rfl rfl ⟨(bc BK301.out 0).trans rfl, (bc BK301.out 1).trans rfl, (bc BK301.out 2).trans rfl, (bc BK301.out 3).trans rfl⟩ (fun hHeld => ?_); refine with_tabW batch_Encode.tab3 batch_Encode.bits3 (fun HT_ HW_ => ?_)
    generalize w10.drew = w11 at BK301 HB hHeld ⊢
    refine Own.pr_ 0 (some 6) q23_1 HT_ (h := ?_)
    refine Own.pr_ 2 (some 8) q23_2 HT_ (h := ?_)
    refine Own.pr_ 4 (some 10) q23_3 HT_ (h := ?_)
    refine Own.pr_ 9 (some 15) q23_4 HT_ (h := ?_)
    refine Own.tk_ 1 (some 7) q23_5 HT_ HW_ hHeld (hy := by rintro w' ⟨s0, s1, s2, s3⟩; go_simp; with_reducible rfl) (h := ?_)
    refine Own.tk_ 3 (some 9) q23_6 HT_ HW_ hHeld (hy := by rintro w' ⟨s0, s1, s2, s3⟩; go_simp; with_reducible rfl) (h := ?_)
    refine Own.tk_ 5 (some 11) q23_7 HT_ HW_ hHeld (hy := by rintro w' ⟨s0, s1, s2, s3⟩; go_simp; with_reducible rfl) (h := ?_)
    refine Own.tk_ 10 (some 16) q23_8 HT_ HW_ hHeld (hy := by rintro w' ⟨s0, s1, s2, s3⟩; go_simp; with_reducible rfl) (h := ?_)
    refine one_ (i := 6) (N := some 12) q23_9 rfl rfl (one_of HT_.out (by kernel_rfl)) (by decide) (fun K hK => ?_)
    refine Kd.R_lit_step (Kd.int .i64) _ 3 ?hg (N := 12) ?hd (xs := ([a0_0, a0_1, a0_2] : List Int)) (inner := [.int .i64 a0_0, .int .i64 a0_1, .int .i64 a0_2]) (ok := fun _ => True) (okp := fun _ => True) ?hr ?hp (fun _ hk => hk) trivial (Below.refl _ _) (Nat.le_refl _) (by simp) ?_; (case hd => rfl); (case hg => rfl); (case hr => first | (go_simp; done) | (go_simp; rfl)); (case hp => exact (Reps.one (show Kd.M (Kd.int .i64) _ _ _ a0_0 [.int .i64 a0_0] from rfl) (Reps.one (show Kd.M (Kd.int .i64) _ _ _ a0_1 [.int .i64 a0_1] from rfl) (Reps.one (show Kd.M (Kd.int .i64) _ _ _ a0_2 [.int .i64 a0_2] from rfl) (Reps.none _ _)))))
    intro v304 w12 ho13 hb hg_ hnew_
    clear hg_ hnew_
    (first | rw [← Ny303.out] at ho13 | (simp only [Int.reduceToNat] at ho13; rw [← Ny303.out] at ho13))
    have n0_ := Am (Kd.R_lower ho13 (below_size (by repeat (first | (with_reducible first | exact HB.out | apply bl | apply pN | apply b1 | refine bs ?_ GE301.out) | exact HB.out | exact HBo.out))))
    have n1_ := Am (blk_below (g := gb301) (o := .cells #[.int .i64 a0_0, .int .i64 a0_1, .int .i64 a0_2, .string a0_3] 23 (0, 0)) (by (with_reducible repeat (first | refine bn ?_ _ | refine bd ?_ | refine ba ?_ _)); exact BK301.out) hb)
    have n2_ := Am (below_step (by repeat (first | (with_reducible first | exact HB.out | apply bl | apply pN | apply b1 | refine bs ?_ GE301.out) | exact HB.out | exact HBo.out)) hb)
    clear BK301
    clear HB
    have HO305 := n0_
    have BK301 := n1_
    have HB := n2_
    clear n0_ n1_ n2_
    clear hb ho13
    obtain ⟨Ao14, co14, eo14⟩ := Kd.R_slice HO305.out
    (first | subst eo14 | (injection eo14 with f1_ f2_ f3_; have f4_ := f1_.symm; have f5_ := f3_.symm; clear f1_ f2_ f3_; subst f4_; subst f5_))
    refine hK.out _ _ ⟨(bc BK301.out 0).trans rfl, (bc BK301.out 1).trans rfl, (bc BK301.out 2).trans rfl, (bc BK301.out 3).trans rfl⟩ (fun hHeld => ?_)
    clear hK K
    refine norm_ (a' := ?_) ?_ ?_
    rotate_left
    ·
     show Act.put _ (some 12) _ = _
     simp only [Act.put, sI, sZ, sS, i64_w, i32_w]
     rfl
    refine one_ (i := 7) (N := some 13) q23_10 rfl rfl (one_of HT_.out (by kernel_rfl)) (by decide) (fun K hK => ?_)
    refine goes_ Try.func34 (by kernel_rfl) rfl #[.slice Ao14 y303.length co14] (by rfl) rfl rfl (by (try simp only [List.map_toArray, List.map_cons, List.map_nil]); first | done | rfl | (simp only [List.length_drop, List.length_take]; rfl)) ?_
    with_reducible refine (wire_Nums.calls k _ _ y303 t306 _ ?side1 ?side2 A4.out).mono ?_
    (case side1 => repeat (first | exact (Kd.R_reads' HO305.out).2.2 | (with_reducible refine Kd.C_alloc ?_ _) | (with_reducible refine Kd.C_drewN ?_ _) | (with_reducible refine Kd.C_drew ?_)))
    (case side2 => exact (Kd.R_reads' HO305.out).2.1)
    rintro e w15 ⟨rfl, hb⟩
    refine ⟨_, rfl, ?_⟩
    have n0_ := Am (Kd.R_below (by (with_reducible repeat (first | apply Kd.R_alloc | apply Kd.R_drewN | apply Kd.R_drew)); exact HO305.out) hb)
    have n1_ := Am (blk_below (g := gb301) (o := .cells #[.int .i64 a0_0, .int .i64 a0_1, .int .i64 a0_2, .string a0_3] 23 (0, 0)) (by (with_reducible repeat (first | refine bn ?_ _ | refine bd ?_ | refine ba ?_ _)); exact BK301.out) hb)
    have n2_ := Am (below_step (by repeat (first | (with_reducible first | exact HB.out | apply bl | apply pN | apply b1 | refine bs ?_ GE301.out) | exact HB.out | exact HBo.out)) hb)
    clear HO305
    clear BK301
    clear HB
    have HO305 := n0_
    have BK301 := n1_
    have HB := n2_
    clear n0_ n1_ n2_
    (try clear hb)
    (try clear hb2)
    (try clear hk)
    (try clear hi)
    refine hK.out _ _ ⟨(bc BK301.out 0).trans rfl, (bc BK301.out 1).trans rfl, (bc BK301.out 2).trans rfl, (bc BK301.out 3).trans rfl⟩ (fun hHeld => ?_)
    clear hK K
    refine norm_ (a' := ?_) ?_ ?_
    rotate_left
    ·
     show Act.put _ (some 13) _ = _
     simp only [Act.put, sI, sZ, sS, i64_w, i32_w]
     rfl
    refine Own.pr_ 8 (some 14) q23_11 HT_ (h := ?_)
    refine one_ (i := 11) (N := some 17) q23_12 rfl rfl (one_of HT_.out (by kernel_rfl)) (by decide) (fun K hK => ?_)
    refine goes_ Try.func35 (by kernel_rfl) rfl #[.string a0_3] (by rfl) rfl rfl (by (try simp only [List.map_toArray, List.map_cons, List.map_nil]); first | done | rfl | (simp only [List.length_drop, List.length_take]; rfl)) ?_
    with_reducible refine (wire_Text.calls k a0_3 t307 _ A6.out).mono ?_
    rintro e w16 ⟨rfl, hb⟩
    refine ⟨_, rfl, ?_⟩
    have n0_ := Am (Kd.R_below (by (with_reducible repeat (first | apply Kd.R_alloc | apply Kd.R_drewN | apply Kd.R_drew)); exact HO305.out) hb)
    have n1_ := Am (blk_below (g := gb301) (o := .cells #[.int .i64 a0_0, .int .i64 a0_1, .int .i64 a0_2, .string a0_3] 23 (0, 0)) (by (with_reducible repeat (first | refine bn ?_ _ | refine bd ?_ | refine ba ?_ _)); exact BK301.out) hb)
    have n2_ := Am (below_step (by repeat (first | (with_reducible first | exact HB.out | apply bl | apply pN | apply b1 | refine bs ?_ GE301.out) | exact HB.out | exact HBo.out)) hb)
    clear HO305
    clear BK301
    clear HB
    have HO305 := n0_
    have BK301 := n1_
    have HB := n2_
    clear n0_ n1_ n2_
    (try clear hb)
    (try clear hb2)
    (try clear hk)
    (try clear hi)
    refine hK.out _ _ ⟨(bc BK301.out 0).trans rfl, (bc BK301.out 1).trans rfl, (bc BK301.out 2).trans rfl, (bc BK301.out 3).trans rfl⟩ (fun hHeld => ?_)
    clear hK K
    refine norm_ (a' := ?_) ?_ ?_
    rotate_left
    ·
     show Act.put _ (some 17) _ = _
     simp only [Act.put, sI, sZ, sS, i64_w, i32_w]
     rfl
    refine Own.pr_ 12 (some 18) q23_13 HT_ (h := ?_)
    refine Own.pr_ 13 (some 2) q23_14 HT_ (h := ?_)
    refine done_ (done_of HT_.out (by kernel_rfl)) ?_
    try go_wp2
    go_ret
    exact ⟨by first | rfl | (simp [errW_none, errW_some] <;> rfl) | (simp [*, errW_none, errW_some] <;> rfl) | (simp [Aid.ne_nil, Aid.eq_nil, errW_none, errW_some]; done), by repeat (first | (with_reducible first | exact HB.out | apply bl | apply pN | apply b1 | refine bs ?_ GE301.out) | exact HB.out | exact HBo.out)⟩
   ·
    rw [if_neg c7] at H
    exact absurd H (by simp)
  ·
   rw [if_neg c5] at H
   exact absurd H (by simp)
 ·
  replace c3 := Bool.eq_false_iff.mpr c3
  subst c3
  have H1 : (some (⟨#[]⟩ : ByteArray)) = some r := by rw [if_neg (show ¬ (false = true) by decide)] at H; exact H
  clear H
  have H := H1
  clear H1
  obtain rfl := Option.some.inj H
  go_enter Try.func15, Try.ntmps15
  go_wp2_with (first | ((with_reducible refine gate_dst (N := 1) rfl ?_); refine box_event ?hg (N := 1) ?hd (cs := #[.int .i64 a0_0, .int .i64 a0_1, .int .i64 a0_2, .string a0_3]) (t := 23) ?hr ?_; (case hd => rfl); (case hg => rfl); (case hr => first | (go_simp; done) | (go_simp; rfl)); intro gb301 hg w17 hbox hb; have n0_ := Am (below_step (by repeat (first | (with_reducible first | exact HB.out | apply bl | apply pN | apply b1) | exact HB.out | exact HBo.out)) hb); have n1_ := Am (hbox); have n2_ := Am ((by rw [hg]; exact (below_size (by repeat (first | (with_reducible first | exact HB.out | apply bl | apply pN | apply b1) | exact HB.out | exact HBo.out))) : w.heap.size ≤ gb301)); have n3_ := Am ((by rw [hg]; exact (below_size (by repeat (first | (with_reducible first | exact HB.out | apply bl | apply pN | apply b1) | exact HB.out | exact HBo.out))) : w.heap.size ≤ gb301)); clear HB; have HB := n0_; have BK301 := n1_; have GW301 := n2_; have GE301 := n3_; clear n0_ n1_ n2_ n3_; clear hb hbox hg; have hcz18_0 : w17.cell? ⟨gb301, 0, none⟩ = some (.int .i64 a0_0) := (bc BK301.out 0).trans rfl; have hcz18_1 : w17.cell? ⟨gb301, 1, none⟩ = some (.int .i64 a0_1) := (bc BK301.out 1).trans rfl; have hcz18_2 : w17.cell? ⟨gb301, 2, none⟩ = some (.int .i64 a0_2) := (bc BK301.out 2).trans rfl; have hcz18_3 : w17.cell? ⟨gb301, 3, none⟩ = some (.string a0_3) := (bc BK301.out 3).trans rfl; have hfz18_0 := bf BK301.out 0; have hfz18_1 := bf BK301.out 1; have hfz18_2 := bf BK301.out 2; have hfz18_3 := bf BK301.out 3) | ((with_reducible refine gate_callee (f := 13) rfl ?_); refine goesL_ (some 4) rfl rfl Try.func13 (by kernel_rfl) rfl #[.agg #[.int .i64 a0_0, .int .i64 a0_1, .int .i64 a0_2, .string a0_3]] rfl (by (try simp only [List.map_toArray, List.map_cons, List.map_nil]); first | done | rfl | (simp only [List.length_drop, List.length_take]; rfl)) ?_; (with_reducible refine (batch_May.calls a0_0 a0_1 a0_2 a0_3 false _ A2.out).mono ?_); rintro e w19 ⟨rfl, hb⟩; refine ⟨_, rfl, ?_⟩; have n0_ := Am (blk_below (g := gb301) (o := .cells #[.int .i64 a0_0, .int .i64 a0_1, .int .i64 a0_2, .string a0_3] 23 (0, 0)) (by (with_reducible repeat (first | refine bn ?_ _ | refine bd ?_ | refine ba ?_ _)); exact BK301.out) hb); have n1_ := Am (below_step (by repeat (first | (with_reducible first | exact HB.out | apply bl | apply pN | apply b1 | refine bs ?_ GE301.out) | exact HB.out | exact HBo.out)) hb); clear BK301; clear HB; have BK301 := n0_; have HB := n1_; clear n0_ n1_; (try clear hb); (try clear hb2); (try clear hk); (try clear hi)))
  go_ret
  exact ⟨by first | rfl | (simp [errW_none, errW_some] <;> rfl) | (simp [*, errW_none, errW_some] <;> rfl) | (simp [Aid.ne_nil, Aid.eq_nil, errW_none, errW_some]; done), by repeat (first | (with_reducible first | exact HB.out | apply bl | apply pN | apply b1 | refine bs ?_ GE301.out) | exact HB.out | exact HBo.out)⟩

end Go.Proofs.Ytfcombimnmkoeaa.Q
