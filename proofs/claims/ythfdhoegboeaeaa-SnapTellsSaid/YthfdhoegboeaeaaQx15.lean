-- printed by a program of this session (NOTES: hprint); not the kit's print
-- minified
-- halved
import Derived.Test.YthfdhoegboeaeaaAl
import Derived.Test.YthfdhoegboeaeaaQx0
import Derived.Test.YthfdhoegboeaeaaQx3
import Derived.Test.YthfdhoegboeaeaaQx5
import Derived.Test.YthfdhoegboeaeaaQx6
import Derived.Test.YthfdhoegboeaeaaQx7
import Derived.Test.YthfdhoegboeaeaaQx8
import Derived.Test.YthfdhoegboeaeaaQx10
import Derived.Test.YthfdhoegboeaeaaQx13
import Derived.Test.YthfdhoegboeaeaaQx14
namespace Go.Proofs.Ythfdhoegboeaeaa.Q
open Go.RowKit Go.Proofs.YthfdhoegboeaeaaW.PrintWords Go.Proofs.YthfdhoegboeaeaaW.PrintLast Go.Proofs.YthfdhoegboeaeaaW.PrintMore
attribute [local go_sem] max2_int min2_int max_two min_two max_three min_three max_four min_four   -- for this text's walks alone
set_option linter.unusedVariables false
set_option linter.unusedSimpArgs false

def q15_0 : Array Bool := let o := true; let z := false; #[z,z,z,z,z,z,z,z,z,z,z,z,z,z,z,z,z,z,z,z,z,z,z,z,z,z]
def q15_1 : Array Bool := let o := true; let z := false; #[o,z,z,z,z,z,z,z,z,z,z,z,z,z,z,z,z,z,z,z,z,z,z,z,z,z]
def q15_2 : Array Bool := let o := true; let z := false; #[o,o,z,z,z,z,z,z,z,z,z,z,z,z,z,z,z,z,z,z,z,z,z,z,z,z]
def q15_3 : Array Bool := let o := true; let z := false; #[o,o,o,z,z,z,z,z,z,z,z,z,z,z,z,z,z,z,z,z,z,z,z,z,z,z]
def q15_4 : Array Bool := let o := true; let z := false; #[o,o,o,z,o,z,z,z,z,z,z,z,z,z,z,z,z,z,z,z,z,z,z,z,z,z]
def q15_5 : Array Bool := let o := true; let z := false; #[o,o,o,o,o,z,z,z,z,z,z,z,z,z,z,z,z,z,z,z,z,z,z,z,z,z]
def q15_6 : Array Bool := let o := true; let z := false; #[o,o,o,o,o,o,z,z,z,z,z,z,z,z,z,z,z,z,z,z,z,z,z,z,z,z]
def q15_7 : Array Bool := let o := true; let z := false; #[o,o,o,o,o,o,o,z,z,z,z,z,z,z,z,z,z,z,z,z,z,z,z,z,z,z]
def q15_8 : Array Bool := let o := true; let z := false; #[o,o,o,o,o,o,o,o,z,z,z,z,z,z,z,z,z,z,z,z,z,z,z,z,z,z]
def q15_9 : Array Bool := let o := true; let z := false; #[o,o,o,o,o,o,o,o,o,z,z,z,z,z,z,z,z,z,z,z,z,z,z,z,z,z]
def q15_10 : Array Bool := let o := true; let z := false; #[o,o,o,o,o,o,o,o,o,o,z,z,z,z,z,z,z,z,z,z,z,z,z,z,z,z]
def q15_11 : Array Bool := let o := true; let z := false; #[o,o,o,o,o,o,o,o,o,o,z,o,z,z,z,z,z,z,z,z,z,z,z,z,z,z]
def q15_12 : Array Bool := let o := true; let z := false; #[o,o,o,o,o,o,o,o,o,o,o,o,z,z,z,z,z,z,z,z,z,z,z,z,z,z]
def q15_13 : Array Bool := let o := true; let z := false; #[o,o,o,o,o,o,o,o,o,o,o,o,o,z,z,z,z,z,z,z,z,z,z,z,z,z]
def q15_14 : Array Bool := let o := true; let z := false; #[o,o,o,o,o,o,o,o,o,o,o,o,o,o,z,z,z,z,z,z,z,z,z,z,z,z]
def q15_15 : Array Bool := let o := true; let z := false; #[o,o,o,o,o,o,o,o,o,o,o,o,o,o,o,z,z,z,z,z,z,z,z,z,z,z]
def q15_16 : Array Bool := let o := true; let z := false; #[o,o,o,o,o,o,o,o,o,o,o,o,o,o,o,o,z,z,z,z,z,z,z,z,z,z]
def q15_17 : Array Bool := let o := true; let z := false; #[o,o,o,o,o,o,o,o,o,o,o,o,o,o,o,o,o,z,z,z,z,z,z,z,z,z]
def q15_18 : Array Bool := let o := true; let z := false; #[o,o,o,o,o,o,o,o,o,o,o,o,o,o,o,o,o,o,z,z,z,z,z,z,z,z]
def q15_19 : Array Bool := let o := true; let z := false; #[o,o,o,o,o,o,o,o,o,o,o,o,o,o,o,o,o,o,o,z,z,z,z,z,z,z]
def q15_20 : Array Bool := let o := true; let z := false; #[o,o,o,o,o,o,o,o,o,o,o,o,o,o,o,o,o,o,o,o,z,z,z,z,z,z]
def q15_21 : Array Bool := let o := true; let z := false; #[o,o,o,o,o,o,o,o,o,o,o,o,o,o,o,o,o,o,o,o,o,z,z,z,z,z]
def q15_22 : Array Bool := let o := true; let z := false; #[o,o,o,o,o,o,o,o,o,o,o,o,o,o,o,o,o,o,o,o,o,o,z,z,z,z]
def q15_23 : Array Bool := let o := true; let z := false; #[o,o,o,o,o,o,o,o,o,o,o,o,o,o,o,o,o,o,o,o,o,o,o,z,z,z]
def q15_24 : Array Bool := let o := true; let z := false; #[o,o,o,o,o,o,o,o,o,o,o,o,o,o,o,o,o,o,o,o,o,o,o,o,z,z]
def q15_25 : Array Bool := let o := true; let z := false; #[o,o,o,o,o,o,o,o,o,o,o,o,o,o,o,o,o,o,o,o,o,o,o,o,o,z]
def q15_26 : Array Bool := let o := true; let z := false; #[o,o,o,o,o,o,o,o,o,o,o,o,o,o,o,o,o,o,o,o,o,o,o,o,o,o]
/-! ### shuttlecocklaw08_SnapTells: function 3 -/
def shuttlecocklaw08_SnapTells.j0 : Nat → ByteArray → Bool → Int → List (S46) → List (S36) → Option (Bool)
 | 0, _, _, _, _, _ => none
 | k + 1, x1, x16, x371000, x371001, x371002 => if x16 = true then ((shuttlecocklaw08_fixed.f k).bind fun t372 => (some t372)) else ((snap_Decode.f k x1).bind fun bt373 => ((shuttlecockref08_Decode.f k x1).bind fun bt382 => ((shuttlecocklaw08_fixed.f k).bind fun t391 => (if t391 = true then ((snap_May.f x371000 x371001 x371002).bind fun t392 => ((shuttlecockref08_May.f x371000 x371001 x371002).bind fun t393 => (if (t392 == t393) = true then ((snap_Encode.f k x371000 x371001 x371002).bind fun t394 => ((shuttlecockref08_Encode.f k x371000 x371001 x371002).bind fun t395 => (if t394.toList = t395.toList then ((shuttlecockref08_Same.f k bt373.1 bt373.2.1 bt373.2.2.1 bt382.1 bt382.2.1 bt382.2.2.1).bind fun t396 => (if t396 = true then (some (bt373.2.2.2 == bt382.2.2.2)) else (none))) else (none)))) else (none)))) else (none)))))
def shuttlecocklaw08_SnapTells.f (k : Nat) (a0_0 : Int) (l0_1 : List (S46)) (l0_2 : List (S36)) (a1 : ByteArray) : Option (Bool) := (shuttlecockref08_Small.f a0_0 l0_1 l0_2).bind fun t371 => (if t371 = true then (shuttlecocklaw08_SnapTells.j0 k a1 (decide ((a1.size : Int) > 2000)) a0_0 l0_1 l0_2) else (shuttlecocklaw08_SnapTells.j0 k a1 true a0_0 l0_1 l0_2))
theorem shuttlecocklaw08_SnapTells.mono_l : ∀ k, (∀ y0 y1 y2 y3 y4, LeO (shuttlecocklaw08_SnapTells.j0 k y0 y1 y2 y3 y4) (shuttlecocklaw08_SnapTells.j0 (k + 1) y0 y1 y2 y3 y4))
 | 0 => fun _ _ _ _ _ r h => by simp [shuttlecocklaw08_SnapTells.j0] at h
 | k + 1 => by
  have ih0 := shuttlecocklaw08_SnapTells.mono_l k
  ·
   intro y0 y1 y2 y3 y4
   unfold shuttlecocklaw08_SnapTells.j0
   repeat' first
   | (with_reducible exact ih0 _ _ _ _ _)
   | (with_reducible exact shuttlecocklaw08_fixed.mono _)
   | (with_reducible exact shuttlecockref08_Decode.mono _ _)
   | (with_reducible exact shuttlecockref08_Encode.mono _ _ _ _)
   | (with_reducible exact shuttlecockref08_Same.mono _ _ _ _ _ _ _)
   | (with_reducible exact snap_Decode.mono _ _)
   | (with_reducible exact snap_Encode.mono _ _ _ _)
   | (with_reducible exact LeO.refl _)
   | (with_reducible exact LeO.none _)
   | (with_reducible refine LeO.ite ?_ ?_)
   | (with_reducible refine LeO.bind ?_ (fun _ => ?_))
   | exact ih0 _ _ _ _ _
   | exact shuttlecocklaw08_fixed.mono _
   | exact shuttlecockref08_Decode.mono _ _
   | exact shuttlecockref08_Encode.mono _ _ _ _
   | exact shuttlecockref08_Same.mono _ _ _ _ _ _ _
   | exact snap_Decode.mono _ _
   | exact snap_Encode.mono _ _ _ _
   | exact LeO.none _
   | refine LeO.ite ?_ ?_
   | refine LeO.bind ?_ (fun _ => ?_)
theorem shuttlecocklaw08_SnapTells.mono : ∀ a0 a1 a2 a3 k, LeO (shuttlecocklaw08_SnapTells.f k a0 a1 a2 a3) (shuttlecocklaw08_SnapTells.f (k + 1) a0 a1 a2 a3) := by
 intro a0 a1 a2 a3 k
 have ih0 := shuttlecocklaw08_SnapTells.mono_l k
 unfold shuttlecocklaw08_SnapTells.f
 repeat' first
   | (with_reducible exact ih0 _ _ _ _ _)
   | (with_reducible exact shuttlecocklaw08_fixed.mono _)
   | (with_reducible exact shuttlecockref08_Decode.mono _ _)
   | (with_reducible exact shuttlecockref08_Encode.mono _ _ _ _)
   | (with_reducible exact shuttlecockref08_Same.mono _ _ _ _ _ _ _)
   | (with_reducible exact snap_Decode.mono _ _)
   | (with_reducible exact snap_Encode.mono _ _ _ _)
   | (with_reducible exact LeO.refl _)
   | (with_reducible exact LeO.none _)
   | (with_reducible refine LeO.ite ?_ ?_)
   | (with_reducible refine LeO.bind ?_ (fun _ => ?_))
   | exact ih0 _ _ _ _ _
   | exact shuttlecocklaw08_fixed.mono _
   | exact shuttlecockref08_Decode.mono _ _
   | exact shuttlecockref08_Encode.mono _ _ _ _
   | exact shuttlecockref08_Same.mono _ _ _ _ _ _ _
   | exact snap_Decode.mono _ _
   | exact snap_Encode.mono _ _ _ _
   | exact LeO.none _
   | refine LeO.ite ?_ ?_
   | refine LeO.bind ?_ (fun _ => ?_)
def shuttlecocklaw08_SnapTells.T5 : Bool × List (List Nat × List Nat) := (true, [([], []), ([0, 0], [0]), ([1], [1]), ([2, 1, 1], [1, 2]), ([1], [1]), ([4, 3, 1], [1, 4]), ([3, 5, 1], [1, 3, 5]), ([1, 6], [1, 6]), ([7, 5], [7]), ([8], [8]), ([9, 8, 8], [8, 9]), ([8], [8]), ([11, 10, 8], [8, 11]), ([10, 12, 8], [8, 10, 12]), ([8, 13], [8, 13]), ([14, 12], [14]), ([15], [15]), ([15], [15]), ([16, 17, 15, 15], [15, 16, 17]), ([15, 18], [15, 18]), ([19, 18], [19]), ([20], [20]), ([20], [20]), ([21, 22, 20], [20, 21, 22]), ([20, 23], [20, 23]), ([24, 20, 0, 1, 2, 3, 4, 5, 6, 7, 8, 9, 10, 11, 12, 13, 14, 15, 16, 17, 18, 19, 20, 21, 22, 23, 24], [24])])
def shuttlecocklaw08_SnapTells.B5 : List Nat := [0, 1, 3, 7, 3, 31, 63, 127, 255, 511, 1023, 511, 4095, 8191, 16383, 32767, 65535, 65535, 262143, 524287, 1048575, 2097151, 2097151, 8388607, 16777215, 33554431]
theorem shuttlecocklaw08_SnapTells.tab5 : rtab .any (opsOf Try.f3 5) = shuttlecocklaw08_SnapTells.T5 := by kernel_rfl
theorem shuttlecocklaw08_SnapTells.bits5 : waitsOk shuttlecocklaw08_SnapTells.T5.2 shuttlecocklaw08_SnapTells.B5 = true := by kernel_rfl
set_option maxHeartbeats 8000000 in
set_option maxRecDepth 100000 in
theorem shuttlecocklaw08_SnapTells.calls (k : Nat) (a0_0 : Int) (A0_1 : Option Addr) (c0_1 : Nat) (l0_1 : List (S46)) (A0_2 : Option Addr) (c0_2 : Nat) (l0_2 : List (S36)) (a1 : ByteArray) (r : Bool) (w : World) (hr0_1 : Kd.C k46 w A0_1 l0_1.length l0_1) (hc0_1 : l0_1.length ≤ c0_1) (hr0_2 : Kd.C k36 w A0_2 l0_2.length l0_2) (hc0_2 : l0_2.length ≤ c0_2) (h : shuttlecocklaw08_SnapTells.f k a0_0 l0_1 l0_2 a1 = some r) :
  Calls Try.prog 3 #[.agg #[.int .i64 a0_0, .slice A0_1 l0_1.length c0_1, .slice A0_2 l0_2.length c0_2], .string a1] w fun e w' => e = .returned (.bool r) ∧ Below w.heap.size w w' := by
 have hu25 := Try.underlying25
 have HR0_1 := Am hr0_1
 have HC0_1 := Am hc0_1
 clear hr0_1 hc0_1
 have HR0_2 := Am hr0_2
 have HC0_2 := Am hc0_2
 clear hr0_2 hc0_2
 have HB := Am (Below.refl w.heap.size w)
 have H : ((shuttlecockref08_Small.f a0_0 l0_1 l0_2).bind fun t371 => (if t371 = true then (shuttlecocklaw08_SnapTells.j0 k a1 (decide ((a1.size : Int) > 2000)) a0_0 l0_1 l0_2) else (shuttlecocklaw08_SnapTells.j0 k a1 true a0_0 l0_1 l0_2))) = some r := h
 clear h
 have HC3 := Am H
 clear H
 go_enter Try.func3, Try.ntmps3
 go_upto_region 1 with (first | ((with_reducible refine gate_dst (N := 2) rfl ?_); (try (refine gate_guard (by rfl) ?_; dsimp only)); refine box_event ?hg (N := 2) ?hd (cs := #[.int .i64 a0_0, .slice A0_1 l0_1.length c0_1, .slice A0_2 l0_2.length c0_2]) (t := 25) ?hr ?_; (case hd => rfl); (case hg => rfl); (case hr => first | (go_simp; done) | (go_simp; rfl)); intro gb370 hg w4 hbox hb; have n0_ := Am (below_step (by repeat (first | (with_reducible first | exact HB.out | apply bl | apply pN | apply b1) | exact HB.out | exact HBo.out)) hb); have n1_ := Am (hbox); have n2_ := Am ((by rw [hg]; exact (below_size (by repeat (first | (with_reducible first | exact HB.out | apply bl | apply pN | apply b1) | exact HB.out | exact HBo.out))) : w.heap.size ≤ gb370)); have n3_ := Am ((by rw [hg]; exact (below_size (by repeat (first | (with_reducible first | exact HB.out | apply bl | apply pN | apply b1) | exact HB.out | exact HBo.out))) : w.heap.size ≤ gb370)); clear HB; have HB := n0_; have BK370 := n1_; have GW370 := n2_; have GE370 := n3_; clear n0_ n1_ n2_ n3_; clear hb hbox hg))
 (try simp only [Act.put, sI, sZ, sS])
 go_cut [16] (fun v16 wc => ∃ (kq : Nat) (x16_2 : Bool), v16 = .bool x16_2 ∧ Aside0 (shuttlecocklaw08_SnapTells.j0 kq a1 x16_2 a0_0 l0_1 l0_2 = some r) ∧ Aside0 (kq ≤ k) ∧ Aside0 (wc.heap[gb370]? = some (.cells #[.int .i64 a0_0, (.slice A0_1 l0_1.length c0_1), (.slice A0_2 l0_2.length c0_2)] 25 (0, 0))) ∧ Aside0 (Below w.heap.size w wc))
 case first =>
  have H := HC3.out
  clear HC3
  replace H := ob H
  obtain ⟨t371, A50, H⟩ := H
  replace H : (if t371 = true then (shuttlecocklaw08_SnapTells.j0 k a1 (decide ((a1.size : Int) > 2000)) a0_0 l0_1 l0_2) else (shuttlecocklaw08_SnapTells.j0 k a1 true a0_0 l0_1 l0_2)) = some r := H
  have A5 := Am A50
  clear A50
  by_cases c6 : t371 = true
  ·
   subst c6
   have H1 : (shuttlecocklaw08_SnapTells.j0 k a1 (decide ((a1.size : Int) > 2000)) a0_0 l0_1 l0_2) = some r := by rw [if_pos rfl] at H; exact H
   clear H
   have H := H1
   clear H1
   have H' := Am H
   clear H
   have hcz7_0 : w4.cell? ⟨gb370, 0, none⟩ = some (.int .i64 a0_0) := (bc BK370.out 0).trans rfl
   have hcz7_1 : w4.cell? ⟨gb370, 1, none⟩ = some (.slice A0_1 l0_1.length c0_1) := (bc BK370.out 1).trans rfl
   have hcz7_2 : w4.cell? ⟨gb370, 2, none⟩ = some (.slice A0_2 l0_2.length c0_2) := (bc BK370.out 2).trans rfl
   have hfz7_0 := bf BK370.out 0
   have hfz7_1 := bf BK370.out 1
   have hfz7_2 := bf BK370.out 2
   go_wp2_with (first | ((with_reducible refine gate_callee (f := 8) rfl ?_); refine goesL_ (some 10) rfl rfl Try.func8 (by kernel_rfl) rfl #[.agg #[.int .i64 a0_0, .slice A0_1 l0_1.length c0_1, .slice A0_2 l0_2.length c0_2]] rfl (by (try simp only [List.map_toArray, List.map_cons, List.map_nil]); first | done | rfl | (simp only [List.length_drop, List.length_take]; rfl)) ?_; (with_reducible refine (shuttlecockref08_Small.calls a0_0 _ _ l0_1 _ _ l0_2 true _ ?side1 ?side2 ?side3 ?side4 A5.out).mono ?_); (case side1 => repeat (first | exact (Kd.C_below HR0_1.out HB.out) | (with_reducible refine Kd.C_alloc ?_ _) | (with_reducible refine Kd.C_drewN ?_ _) | (with_reducible refine Kd.C_drew ?_))); (case side2 => exact HC0_1.out); (case side3 => repeat (first | exact (Kd.C_below HR0_2.out HB.out) | (with_reducible refine Kd.C_alloc ?_ _) | (with_reducible refine Kd.C_drewN ?_ _) | (with_reducible refine Kd.C_drew ?_))); (case side4 => exact HC0_2.out); rintro e w8 ⟨rfl, hb⟩; refine ⟨_, rfl, ?_⟩; have n0_ := Am (blk_below (g := gb370) (o := .cells #[.int .i64 a0_0, .slice A0_1 l0_1.length c0_1, .slice A0_2 l0_2.length c0_2] 25 (0, 0)) (by (with_reducible repeat (first | refine bn ?_ _ | refine bd ?_ | refine ba ?_ _)); exact BK370.out) hb); have n1_ := Am (below_step (by repeat (first | (with_reducible first | exact HB.out | apply bl | apply pN | apply b1 | refine bs ?_ GE370.out) | exact HB.out | exact HBo.out)) hb); clear BK370; clear HB; have BK370 := n0_; have HB := n1_; clear n0_ n1_; (try clear hb); (try clear hb2); (try clear hk); (try clear hi)))
   go_meet
   case rel => exact ⟨_, (decide ((a1.size : Int) > 2000)), (by first | rfl | (simp; done) | (simp [*]; done)), H', ⟨by first | omega | exact Nat.le_refl _⟩, ⟨by (with_reducible repeat (first | refine bn ?_ _ | refine bd ?_ | refine ba ?_ _)); exact BK370.out⟩, ⟨by repeat (first | (with_reducible first | exact HB.out | apply bl | apply pN | apply b1 | refine bs ?_ GE370.out) | exact HB.out | exact HBo.out)⟩⟩
  ·
   replace c6 := Bool.eq_false_iff.mpr c6
   subst c6
   have H1 : (shuttlecocklaw08_SnapTells.j0 k a1 true a0_0 l0_1 l0_2) = some r := by rw [if_neg (show ¬ (false = true) by decide)] at H; exact H
   clear H
   have H := H1
   clear H1
   have H' := Am H
   clear H
   have hcz9_0 : w4.cell? ⟨gb370, 0, none⟩ = some (.int .i64 a0_0) := (bc BK370.out 0).trans rfl
   have hcz9_1 : w4.cell? ⟨gb370, 1, none⟩ = some (.slice A0_1 l0_1.length c0_1) := (bc BK370.out 1).trans rfl
   have hcz9_2 : w4.cell? ⟨gb370, 2, none⟩ = some (.slice A0_2 l0_2.length c0_2) := (bc BK370.out 2).trans rfl
   have hfz9_0 := bf BK370.out 0
   have hfz9_1 := bf BK370.out 1
   have hfz9_2 := bf BK370.out 2
   go_wp2_with (first | ((with_reducible refine gate_callee (f := 8) rfl ?_); refine goesL_ (some 10) rfl rfl Try.func8 (by kernel_rfl) rfl #[.agg #[.int .i64 a0_0, .slice A0_1 l0_1.length c0_1, .slice A0_2 l0_2.length c0_2]] rfl (by (try simp only [List.map_toArray, List.map_cons, List.map_nil]); first | done | rfl | (simp only [List.length_drop, List.length_take]; rfl)) ?_; (with_reducible refine (shuttlecockref08_Small.calls a0_0 _ _ l0_1 _ _ l0_2 false _ ?side1 ?side2 ?side3 ?side4 A5.out).mono ?_); (case side1 => repeat (first | exact (Kd.C_below HR0_1.out HB.out) | (with_reducible refine Kd.C_alloc ?_ _) | (with_reducible refine Kd.C_drewN ?_ _) | (with_reducible refine Kd.C_drew ?_))); (case side2 => exact HC0_1.out); (case side3 => repeat (first | exact (Kd.C_below HR0_2.out HB.out) | (with_reducible refine Kd.C_alloc ?_ _) | (with_reducible refine Kd.C_drewN ?_ _) | (with_reducible refine Kd.C_drew ?_))); (case side4 => exact HC0_2.out); rintro e w10 ⟨rfl, hb⟩; refine ⟨_, rfl, ?_⟩; have n0_ := Am (blk_below (g := gb370) (o := .cells #[.int .i64 a0_0, .slice A0_1 l0_1.length c0_1, .slice A0_2 l0_2.length c0_2] 25 (0, 0)) (by (with_reducible repeat (first | refine bn ?_ _ | refine bd ?_ | refine ba ?_ _)); exact BK370.out) hb); have n1_ := Am (below_step (by repeat (first | (with_reducible first | exact HB.out | apply bl | apply pN | apply b1 | refine bs ?_ GE370.out) | exact HB.out | exact HBo.out)) hb); clear BK370; clear HB; have BK370 := n0_; have HB := n1_; clear n0_ n1_; (try clear hb); (try clear hb2); (try clear hk); (try clear hi)))
   go_meet
   case rel => exact ⟨_, (true), (by first | rfl | (simp; done) | (simp [*]; done)), H', ⟨by first | omega | exact Nat.le_refl _⟩, ⟨by (with_reducible repeat (first | refine bn ?_ _ | refine bd ?_ | refine ba ?_ _)); exact BK370.out⟩, ⟨by repeat (first | (with_reducible first | exact HB.out | apply bl | apply pN | apply b1 | refine bs ?_ GE370.out) | exact HB.out | exact HBo.out)⟩⟩
 case rest =>
  clear HC3
  try clear p2
  try clear c3
  try clear c6
  try clear c8
  try clear hcz7_0
  try clear hcz7_1
  try clear hcz7_2
  try clear hcz9_0
  try clear hcz9_1
  try clear hcz9_2
  try clear hfz7_0
  try clear hfz7_1
  try clear hfz7_2
  try clear hfz9_0
  try clear hfz9_1
  try clear hfz9_2
  obtain ⟨kq, x16_2, rfl, HA, HJ2, BK370, HB⟩ := hcut
  cases kq with
  | zero => exact absurd HA.out (by simp [shuttlecocklaw08_SnapTells.j0])
  | succ kj2 =>
   have H := HA.out
   clear HA
   simp only [shuttlecocklaw08_SnapTells.j0] at H
   by_cases c11 : x16_2 = true
   ·
    subst c11
    have H1 : ((shuttlecocklaw08_fixed.f kj2).bind fun t372 => (some t372)) = some r := by rw [if_pos rfl] at H; exact H
    clear H
    have H := H1
    clear H1
    replace H := ob H
    obtain ⟨t372, A120, H⟩ := H
    replace H : (some t372) = some r := H
    have A12 := Am A120
    clear A120
    obtain rfl := Option.some.inj H
    go_wp2_with (first | ((with_reducible refine gate_callee (f := 9) rfl ?_); refine goesL_ (some 17) rfl rfl Try.func9 (by kernel_rfl) rfl #[] rfl (by (try simp only [List.map_toArray, List.map_cons, List.map_nil]); first | done | rfl | (simp only [List.length_drop, List.length_take]; rfl)) ?_; (with_reducible refine (shuttlecocklaw08_fixed.calls kj2  t372 _ A12.out).mono ?_); rintro e w13 ⟨rfl, hb⟩; refine ⟨_, rfl, ?_⟩; have n0_ := Am (blk_below (g := gb370) (o := .cells #[.int .i64 a0_0, .slice A0_1 l0_1.length c0_1, .slice A0_2 l0_2.length c0_2] 25 (0, 0)) (by (with_reducible repeat (first | refine bn ?_ _ | refine bd ?_ | refine ba ?_ _)); exact BK370.out) hb); have n1_ := Am (below_step (by repeat (first | (with_reducible first | exact HB.out | apply bl | apply pN | apply b1 | refine bs ?_ GE370.out) | exact HB.out | exact HBo.out)) hb); clear BK370; clear HB; have BK370 := n0_; have HB := n1_; clear n0_ n1_; (try clear hb); (try clear hb2); (try clear hk); (try clear hi)))
    go_ret
    exact ⟨by first | rfl | (simp [errW_none, errW_some] <;> rfl) | (simp [*, errW_none, errW_some] <;> rfl) | (simp [Aid.ne_nil, Aid.eq_nil, errW_none, errW_some]; done), by repeat (first | (with_reducible first | exact HB.out | apply bl | apply pN | apply b1 | refine bs ?_ GE370.out) | exact HB.out | exact HBo.out)⟩
   ·
    replace c11 := Bool.eq_false_iff.mpr c11
    subst c11
    have H1 : ((snap_Decode.f kj2 a1).bind fun bt373 => ((shuttlecockref08_Decode.f kj2 a1).bind fun bt382 => ((shuttlecocklaw08_fixed.f kj2).bind fun t391 => (if t391 = true then ((snap_May.f a0_0 l0_1 l0_2).bind fun t392 => ((shuttlecockref08_May.f a0_0 l0_1 l0_2).bind fun t393 => (if (t392 == t393) = true then ((snap_Encode.f kj2 a0_0 l0_1 l0_2).bind fun t394 => ((shuttlecockref08_Encode.f kj2 a0_0 l0_1 l0_2).bind fun t395 => (if t394.toList = t395.toList then ((shuttlecockref08_Same.f kj2 bt373.1 bt373.2.1 bt373.2.2.1 bt382.1 bt382.2.1 bt382.2.2.1).bind fun t396 => (if t396 = true then (some (bt373.2.2.2 == bt382.2.2.2)) else (none))) else (none)))) else (none)))) else (none))))) = some r := by rw [if_neg (show ¬ (false = true) by decide)] at H; exact H
    clear H
    have H := H1
    clear H1
    replace H := ob H
    obtain ⟨⟨t373, t374, t377, t380⟩, A140, H⟩ := H
    replace H : ((shuttlecockref08_Decode.f kj2 a1).bind fun bt382 => ((shuttlecocklaw08_fixed.f kj2).bind fun t391 => (if t391 = true then ((snap_May.f a0_0 l0_1 l0_2).bind fun t392 => ((shuttlecockref08_May.f a0_0 l0_1 l0_2).bind fun t393 => (if (t392 == t393) = true then ((snap_Encode.f kj2 a0_0 l0_1 l0_2).bind fun t394 => ((shuttlecockref08_Encode.f kj2 a0_0 l0_1 l0_2).bind fun t395 => (if t394.toList = t395.toList then ((shuttlecockref08_Same.f kj2 t373 t374 t377 bt382.1 bt382.2.1 bt382.2.2.1).bind fun t396 => (if t396 = true then (some (t380 == bt382.2.2.2)) else (none))) else (none)))) else (none)))) else (none)))) = some r := H
    have A14 := Am A140
    clear A140
    replace H := ob H
    obtain ⟨⟨t382, t383, t386, t389⟩, A150, H⟩ := H
    replace H : ((shuttlecocklaw08_fixed.f kj2).bind fun t391 => (if t391 = true then ((snap_May.f a0_0 l0_1 l0_2).bind fun t392 => ((shuttlecockref08_May.f a0_0 l0_1 l0_2).bind fun t393 => (if (t392 == t393) = true then ((snap_Encode.f kj2 a0_0 l0_1 l0_2).bind fun t394 => ((shuttlecockref08_Encode.f kj2 a0_0 l0_1 l0_2).bind fun t395 => (if t394.toList = t395.toList then ((shuttlecockref08_Same.f kj2 t373 t374 t377 t382 t383 t386).bind fun t396 => (if t396 = true then (some (t380 == t389)) else (none))) else (none)))) else (none)))) else (none))) = some r := H
    have A15 := Am A150
    clear A150
    replace H := ob H
    obtain ⟨t391, A160, H⟩ := H
    replace H : (if t391 = true then ((snap_May.f a0_0 l0_1 l0_2).bind fun t392 => ((shuttlecockref08_May.f a0_0 l0_1 l0_2).bind fun t393 => (if (t392 == t393) = true then ((snap_Encode.f kj2 a0_0 l0_1 l0_2).bind fun t394 => ((shuttlecockref08_Encode.f kj2 a0_0 l0_1 l0_2).bind fun t395 => (if t394.toList = t395.toList then ((shuttlecockref08_Same.f kj2 t373 t374 t377 t382 t383 t386).bind fun t396 => (if t396 = true then (some (t380 == t389)) else (none))) else (none)))) else (none)))) else (none)) = some r := H
    have A16 := Am A160
    clear A160
    by_cases c17 : t391 = true
    ·
     subst c17
     have H1 : ((snap_May.f a0_0 l0_1 l0_2).bind fun t392 => ((shuttlecockref08_May.f a0_0 l0_1 l0_2).bind fun t393 => (if (t392 == t393) = true then ((snap_Encode.f kj2 a0_0 l0_1 l0_2).bind fun t394 => ((shuttlecockref08_Encode.f kj2 a0_0 l0_1 l0_2).bind fun t395 => (if t394.toList = t395.toList then ((shuttlecockref08_Same.f kj2 t373 t374 t377 t382 t383 t386).bind fun t396 => (if t396 = true then (some (t380 == t389)) else (none))) else (none)))) else (none)))) = some r := by rw [if_pos rfl] at H; exact H
     clear H
     have H := H1
     clear H1
     replace H := ob H
     obtain ⟨t392, A180, H⟩ := H
     replace H : ((shuttlecockref08_May.f a0_0 l0_1 l0_2).bind fun t393 => (if (t392 == t393) = true then ((snap_Encode.f kj2 a0_0 l0_1 l0_2).bind fun t394 => ((shuttlecockref08_Encode.f kj2 a0_0 l0_1 l0_2).bind fun t395 => (if t394.toList = t395.toList then ((shuttlecockref08_Same.f kj2 t373 t374 t377 t382 t383 t386).bind fun t396 => (if t396 = true then (some (t380 == t389)) else (none))) else (none)))) else (none))) = some r := H
     have A18 := Am A180
     clear A180
     replace H := ob H
     obtain ⟨t393, A190, H⟩ := H
     replace H : (if (t392 == t393) = true then ((snap_Encode.f kj2 a0_0 l0_1 l0_2).bind fun t394 => ((shuttlecockref08_Encode.f kj2 a0_0 l0_1 l0_2).bind fun t395 => (if t394.toList = t395.toList then ((shuttlecockref08_Same.f kj2 t373 t374 t377 t382 t383 t386).bind fun t396 => (if t396 = true then (some (t380 == t389)) else (none))) else (none)))) else (none)) = some r := H
     have A19 := Am A190
     clear A190
     by_cases c20 : (t392 == t393) = true
     ·
      rw [if_pos c20] at H
      have c20b0 : (t392 == t393) = true := c20
      (try (have c20b1 : decide (t392 = t393) = true := by simpa using c20))
      (try (have c20b2 : (t392 == t393) = true := by simpa using c20))
      clear c20
      replace H := ob H
      obtain ⟨t394, A210, H⟩ := H
      replace H : ((shuttlecockref08_Encode.f kj2 a0_0 l0_1 l0_2).bind fun t395 => (if t394.toList = t395.toList then ((shuttlecockref08_Same.f kj2 t373 t374 t377 t382 t383 t386).bind fun t396 => (if t396 = true then (some (t380 == t389)) else (none))) else (none))) = some r := H
      have A21 := Am A210
      clear A210
      replace H := ob H
      obtain ⟨t395, A220, H⟩ := H
      replace H : (if t394.toList = t395.toList then ((shuttlecockref08_Same.f kj2 t373 t374 t377 t382 t383 t386).bind fun t396 => (if t396 = true then (some (t380 == t389)) else (none))) else (none)) = some r := H
      have A22 := Am A220
      clear A220
      by_cases c23 : t394.toList = t395.toList
      ·
       rw [if_pos c23] at H
       have c23b0 : (t394.toList == t395.toList) = true := beq_iff_eq.mpr c23
       have c23b1 : (t394.toList != t395.toList) = false := bne_eq_false_iff_eq.mpr c23
       clear c23
       replace H := ob H
       obtain ⟨t396, A240, H⟩ := H
       replace H : (if t396 = true then (some (t380 == t389)) else (none)) = some r := H
       have A24 := Am A240
       clear A240
       by_cases c25 : t396 = true
       ·
        subst c25
        have H1 : (some (t380 == t389)) = some r := by rw [if_pos rfl] at H; exact H
        clear H
        have H := H1
        clear H1
        obtain rfl := Option.some.inj H
        try go_wp2_with (first | ((with_reducible refine gate_callee (f := 10) rfl ?_); refine goesL_ (some 20) rfl rfl Try.func10 (by kernel_rfl) rfl #[.string a1] rfl (by (try simp only [List.map_toArray, List.map_cons, List.map_nil]); first | done | rfl | (simp only [List.length_drop, List.length_take]; rfl)) ?_; (with_reducible refine (snap_Decode.calls kj2 a1 t373 t374 t377 t380 _ A14.out).mono ?_); rintro e w26 ⟨v375, v378, rfl, ho0, ho1, hb⟩; refine ⟨_, rfl, ?_⟩; have n0_ := Am (Kd.R_lower ho0 (below_size (by repeat (first | (with_reducible first | exact HB.out | apply bl | apply pN | apply b1 | refine bs ?_ GE370.out) | exact HB.out | exact HBo.out)))); have n1_ := Am (Kd.R_lower ho1 (below_size (by repeat (first | (with_reducible first | exact HB.out | apply bl | apply pN | apply b1 | refine bs ?_ GE370.out) | exact HB.out | exact HBo.out)))); have n2_ := Am (blk_below (g := gb370) (o := .cells #[.int .i64 a0_0, .slice A0_1 l0_1.length c0_1, .slice A0_2 l0_2.length c0_2] 25 (0, 0)) (by (with_reducible repeat (first | refine bn ?_ _ | refine bd ?_ | refine ba ?_ _)); exact BK370.out) hb); have n3_ := Am (below_step (by repeat (first | (with_reducible first | exact HB.out | apply bl | apply pN | apply b1 | refine bs ?_ GE370.out) | exact HB.out | exact HBo.out)) hb); clear BK370; clear HB; have HO376 := n0_; have HO379 := n1_; have BK370 := n2_; have HB := n3_; clear n0_ n1_ n2_ n3_; (try clear hb); (try clear hb2); (try clear hk); (try clear hi); (try clear ho0); (try clear ho1)) | ((with_reducible refine gate_dst (N := 5) rfl ?_); (try (refine gate_guard (by rfl) ?_; dsimp only)); refine box_event ?hg (N := 5) ?hd (cs := #[.int .i64 0, .slice none 0 0, .slice none 0 0]) (t := 25) ?hr ?_; (case hd => rfl); (case hg => rfl); (case hr => first | (go_simp; done) | (go_simp; rfl)); intro gb381 hg w27 hbox hb; have n0_ := Am (Kd.R_below (by (with_reducible repeat (first | apply Kd.R_alloc | apply Kd.R_drewN | apply Kd.R_drew)); exact HO376.out) hb); have n1_ := Am (Kd.R_below (by (with_reducible repeat (first | apply Kd.R_alloc | apply Kd.R_drewN | apply Kd.R_drew)); exact HO379.out) hb); have n2_ := Am (blk_below (g := gb370) (o := .cells #[.int .i64 a0_0, .slice A0_1 l0_1.length c0_1, .slice A0_2 l0_2.length c0_2] 25 (0, 0)) (by (with_reducible repeat (first | refine bn ?_ _ | refine bd ?_ | refine ba ?_ _)); exact BK370.out) hb); have n3_ := Am (below_step (by repeat (first | (with_reducible first | exact HB.out | apply bl | apply pN | apply b1 | refine bs ?_ GE370.out) | exact HB.out | exact HBo.out)) hb); have n4_ := Am (hbox); have n5_ := Am ((by rw [hg]; exact (below_size (by repeat (first | (with_reducible first | exact HB.out | apply bl | apply pN | apply b1 | refine bs ?_ GE370.out) | exact HB.out | exact HBo.out))) : w.heap.size ≤ gb381)); have n6_ := Am ((by rw [hg]; exact (below_size (by repeat (first | (with_reducible first | exact HB.out | apply bl | apply pN | apply b1 | refine bs ?_ GE370.out) | exact HB.out | exact HBo.out))) : w.heap.size ≤ gb381)); have n7_ := Am ((by rw [hg]; exact Nat.ne_of_lt (blk_lt (g := gb370) (o := .cells #[.int .i64 a0_0, .slice A0_1 l0_1.length c0_1, .slice A0_2 l0_2.length c0_2] 25 (0, 0)) (by (with_reducible repeat (first | refine bn ?_ _ | refine bd ?_ | refine ba ?_ _)); exact BK370.out)) : gb370 ≠ gb381)); have n8_ := Am ((by rw [hg]; exact Nat.ne_of_gt (blk_lt (g := gb370) (o := .cells #[.int .i64 a0_0, .slice A0_1 l0_1.length c0_1, .slice A0_2 l0_2.length c0_2] 25 (0, 0)) (by (with_reducible repeat (first | refine bn ?_ _ | refine bd ?_ | refine ba ?_ _)); exact BK370.out)) : gb381 ≠ gb370)); clear HO376; clear HO379; clear BK370; clear HB; have HO376 := n0_; have HO379 := n1_; have BK370 := n2_; have HB := n3_; have BK381 := n4_; have GW381 := n5_; have GE381 := n6_; have NB370_381 := n7_; have NB381_370 := n8_; clear n0_ n1_ n2_ n3_ n4_ n5_ n6_ n7_ n8_; clear hb hbox hg; have hnb28 := NB381_370.out; have hnc28 := NB370_381.out; have hcz29_0 : w27.cell? ⟨gb381, 0, none⟩ = some (.int .i64 0) := (bc BK381.out 0).trans rfl; have hcz29_1 : w27.cell? ⟨gb381, 1, none⟩ = some (.slice none 0 0) := (bc BK381.out 1).trans rfl; have hcz29_2 : w27.cell? ⟨gb381, 2, none⟩ = some (.slice none 0 0) := (bc BK381.out 2).trans rfl; have hfz29_0 := bf BK381.out 0; have hfz29_1 := bf BK381.out 1; have hfz29_2 := bf BK381.out 2; obtain ⟨Ao30, co30, eo30⟩ := Kd.R_slice HO376.out; subst eo30; obtain ⟨Ao31, co31, eo31⟩ := Kd.R_slice HO379.out; subst eo31) | ((with_reducible refine gate_callee (f := 11) rfl ?_); refine goesL_ (some 25) rfl rfl Try.func11 (by kernel_rfl) rfl #[.string a1] rfl (by (try simp only [List.map_toArray, List.map_cons, List.map_nil]); first | done | rfl | (simp only [List.length_drop, List.length_take]; rfl)) ?_; (with_reducible refine (shuttlecockref08_Decode.calls kj2 a1 t382 t383 t386 t389 _ A15.out).mono ?_); rintro e w32 ⟨v384, v387, rfl, ho0, ho1, hb⟩; refine ⟨_, rfl, ?_⟩; have n0_ := Am (Kd.R_elder' (by (with_reducible repeat (first | apply Kd.R_alloc | apply Kd.R_drewN | apply Kd.R_drew)); exact (Kd.R_mono (Kd.R_far (p := ⟨gb381, 2, none⟩) (Kd.R_far (p := ⟨gb381, 1, none⟩) (Kd.R_far (p := ⟨gb381, 0, none⟩) (Kd.R_types HO376.out BK381.out (by decide)) (fun _ hk => hk.2) (.int .i64 t373)) (fun _ hk => hk.2) (.slice Ao30 t374.length co30)) (fun _ hk => hk.2) (.slice Ao31 t377.length co31)) (fun _ h_ => h_.1))) (Kd.R_base ho0) hb); have n1_ := Am (Kd.R_elder' (by (with_reducible repeat (first | apply Kd.R_alloc | apply Kd.R_drewN | apply Kd.R_drew)); exact (Kd.R_mono (Kd.R_far (p := ⟨gb381, 2, none⟩) (Kd.R_far (p := ⟨gb381, 1, none⟩) (Kd.R_far (p := ⟨gb381, 0, none⟩) (Kd.R_types HO379.out BK381.out (by decide)) (fun _ hk => hk.2) (.int .i64 t373)) (fun _ hk => hk.2) (.slice Ao30 t374.length co30)) (fun _ hk => hk.2) (.slice Ao31 t377.length co31)) (fun _ h_ => h_.1))) (Kd.R_base ho1) hb); have n2_ := Am (Kd.R_lower (Kd.R_new' ho0 (Kd.R_lt (by (with_reducible repeat (first | apply Kd.R_alloc | apply Kd.R_drewN | apply Kd.R_drew)); exact (Kd.R_mono (Kd.R_far (p := ⟨gb381, 2, none⟩) (Kd.R_far (p := ⟨gb381, 1, none⟩) (Kd.R_far (p := ⟨gb381, 0, none⟩) (Kd.R_types HO376.out BK381.out (by decide)) (fun _ hk => hk.2) (.int .i64 t373)) (fun _ hk => hk.2) (.slice Ao30 t374.length co30)) (fun _ hk => hk.2) (.slice Ao31 t377.length co31)) (fun _ h_ => h_.1))))) (below_size (by repeat (first | (with_reducible first | exact HB.out | apply bl | apply pN | apply b1 | refine bs ?_ GE370.out | refine bs ?_ GE381.out) | exact HB.out | exact HBo.out)))); have n3_ := Am (Kd.R_lower (Kd.R_new' ho1 (Kd.R_lt (by (with_reducible repeat (first | apply Kd.R_alloc | apply Kd.R_drewN | apply Kd.R_drew)); exact (Kd.R_mono (Kd.R_far (p := ⟨gb381, 2, none⟩) (Kd.R_far (p := ⟨gb381, 1, none⟩) (Kd.R_far (p := ⟨gb381, 0, none⟩) (Kd.R_types HO379.out BK381.out (by decide)) (fun _ hk => hk.2) (.int .i64 t373)) (fun _ hk => hk.2) (.slice Ao30 t374.length co30)) (fun _ hk => hk.2) (.slice Ao31 t377.length co31)) (fun _ h_ => h_.1))))) (below_size (by repeat (first | (with_reducible first | exact HB.out | apply bl | apply pN | apply b1 | refine bs ?_ GE370.out | refine bs ?_ GE381.out) | exact HB.out | exact HBo.out)))); have n4_ := Am (blk_below (g := gb370) (o := .cells #[.int .i64 a0_0, .slice A0_1 l0_1.length c0_1, .slice A0_2 l0_2.length c0_2] 25 (0, 0)) (by (with_reducible repeat (first | refine bn ?_ _ | refine bd ?_ | refine ba ?_ _)); refine blk_far ?_ NB370_381.out _; (with_reducible repeat (first | refine bn ?_ _ | refine bd ?_ | refine ba ?_ _)); refine blk_far ?_ NB370_381.out _; (with_reducible repeat (first | refine bn ?_ _ | refine bd ?_ | refine ba ?_ _)); refine blk_far ?_ NB370_381.out _; (with_reducible repeat (first | refine bn ?_ _ | refine bd ?_ | refine ba ?_ _)); exact BK370.out) hb); have n5_ := Am (blk_below (g := gb381) (o := .cells #[.int .i64 t373, .slice Ao30 t374.length co30, .slice Ao31 t377.length co31] 25 (0, 0)) (by (with_reducible repeat (first | refine bn ?_ _ | refine bd ?_ | refine ba ?_ _)); refine blk_put (cs := #[.int .i64 t373, .slice Ao30 t374.length co30, .slice none 0 0]) ?_ 2 _ rfl; (with_reducible repeat (first | refine bn ?_ _ | refine bd ?_ | refine ba ?_ _)); refine blk_put (cs := #[.int .i64 t373, .slice none 0 0, .slice none 0 0]) ?_ 1 _ rfl; (with_reducible repeat (first | refine bn ?_ _ | refine bd ?_ | refine ba ?_ _)); refine blk_put (cs := #[.int .i64 0, .slice none 0 0, .slice none 0 0]) ?_ 0 _ rfl; (with_reducible repeat (first | refine bn ?_ _ | refine bd ?_ | refine ba ?_ _)); exact BK381.out) hb); have n6_ := Am (below_step (by repeat (first | (with_reducible first | exact HB.out | apply bl | apply pN | apply b1 | refine bs ?_ GE370.out | refine bs ?_ GE381.out) | exact HB.out | exact HBo.out)) hb); clear HO376; clear HO379; clear BK370; clear BK381; clear HB; have HO376 := n0_; have HO379 := n1_; have HO385 := n2_; have HO388 := n3_; have BK370 := n4_; have BK381 := n5_; have HB := n6_; clear n0_ n1_ n2_ n3_ n4_ n5_ n6_; (try clear hb); (try clear hb2); (try clear hk); (try clear hi); (try clear ho0); (try clear ho1)) | ((with_reducible refine gate_dst (N := 7) rfl ?_); (try (refine gate_guard (by rfl) ?_; dsimp only)); refine box_event ?hg (N := 7) ?hd (cs := #[.int .i64 0, .slice none 0 0, .slice none 0 0]) (t := 25) ?hr ?_; (case hd => rfl); (case hg => rfl); (case hr => first | (go_simp; done) | (go_simp; rfl)); intro gb390 hg w33 hbox hb; have n0_ := Am (Kd.R_below (by (with_reducible repeat (first | apply Kd.R_alloc | apply Kd.R_drewN | apply Kd.R_drew)); exact HO376.out) hb); have n1_ := Am (Kd.R_below (by (with_reducible repeat (first | apply Kd.R_alloc | apply Kd.R_drewN | apply Kd.R_drew)); exact HO379.out) hb); have n2_ := Am (Kd.R_below (by (with_reducible repeat (first | apply Kd.R_alloc | apply Kd.R_drewN | apply Kd.R_drew)); exact HO385.out) hb); have n3_ := Am (Kd.R_below (by (with_reducible repeat (first | apply Kd.R_alloc | apply Kd.R_drewN | apply Kd.R_drew)); exact HO388.out) hb); have n4_ := Am (blk_below (g := gb370) (o := .cells #[.int .i64 a0_0, .slice A0_1 l0_1.length c0_1, .slice A0_2 l0_2.length c0_2] 25 (0, 0)) (by (with_reducible repeat (first | refine bn ?_ _ | refine bd ?_ | refine ba ?_ _)); exact BK370.out) hb); have n5_ := Am (blk_below (g := gb381) (o := .cells #[.int .i64 t373, .slice Ao30 t374.length co30, .slice Ao31 t377.length co31] 25 (0, 0)) (by (with_reducible repeat (first | refine bn ?_ _ | refine bd ?_ | refine ba ?_ _)); exact BK381.out) hb); have n6_ := Am (below_step (by repeat (first | (with_reducible first | exact HB.out | apply bl | apply pN | apply b1 | refine bs ?_ GE370.out | refine bs ?_ GE381.out) | exact HB.out | exact HBo.out)) hb); have n7_ := Am (hbox); have n8_ := Am ((by rw [hg]; exact (below_size (by repeat (first | (with_reducible first | exact HB.out | apply bl | apply pN | apply b1 | refine bs ?_ GE370.out | refine bs ?_ GE381.out) | exact HB.out | exact HBo.out))) : w.heap.size ≤ gb390)); have n9_ := Am ((by rw [hg]; exact (below_size (by repeat (first | (with_reducible first | exact HB.out | apply bl | apply pN | apply b1 | refine bs ?_ GE370.out | refine bs ?_ GE381.out) | exact HB.out | exact HBo.out))) : w.heap.size ≤ gb390)); have n10_ := Am ((by rw [hg]; exact Nat.ne_of_lt (blk_lt (g := gb370) (o := .cells #[.int .i64 a0_0, .slice A0_1 l0_1.length c0_1, .slice A0_2 l0_2.length c0_2] 25 (0, 0)) (by (with_reducible repeat (first | refine bn ?_ _ | refine bd ?_ | refine ba ?_ _)); exact BK370.out)) : gb370 ≠ gb390)); have n11_ := Am ((by rw [hg]; exact Nat.ne_of_gt (blk_lt (g := gb370) (o := .cells #[.int .i64 a0_0, .slice A0_1 l0_1.length c0_1, .slice A0_2 l0_2.length c0_2] 25 (0, 0)) (by (with_reducible repeat (first | refine bn ?_ _ | refine bd ?_ | refine ba ?_ _)); exact BK370.out)) : gb390 ≠ gb370)); have n12_ := Am ((by rw [hg]; exact Nat.ne_of_lt (blk_lt (g := gb381) (o := .cells #[.int .i64 t373, .slice Ao30 t374.length co30, .slice Ao31 t377.length co31] 25 (0, 0)) (by (with_reducible repeat (first | refine bn ?_ _ | refine bd ?_ | refine ba ?_ _)); exact BK381.out)) : gb381 ≠ gb390)); have n13_ := Am ((by rw [hg]; exact Nat.ne_of_gt (blk_lt (g := gb381) (o := .cells #[.int .i64 t373, .slice Ao30 t374.length co30, .slice Ao31 t377.length co31] 25 (0, 0)) (by (with_reducible repeat (first | refine bn ?_ _ | refine bd ?_ | refine ba ?_ _)); exact BK381.out)) : gb390 ≠ gb381)); clear HO376; clear HO379; clear HO385; clear HO388; clear BK370; clear BK381; clear HB; have HO376 := n0_; have HO379 := n1_; have HO385 := n2_; have HO388 := n3_; have BK370 := n4_; have BK381 := n5_; have HB := n6_; have BK390 := n7_; have GW390 := n8_; have GE390 := n9_; have NB370_390 := n10_; have NB390_370 := n11_; have NB381_390 := n12_; have NB390_381 := n13_; clear n0_ n1_ n2_ n3_ n4_ n5_ n6_ n7_ n8_ n9_ n10_ n11_ n12_ n13_; clear hb hbox hg; have hnb34 := NB390_370.out; have hnc34 := NB370_390.out; have hnb35 := NB390_381.out; have hnc35 := NB381_390.out; have hcz36_0 : w33.cell? ⟨gb390, 0, none⟩ = some (.int .i64 0) := (bc BK390.out 0).trans rfl; have hcz36_1 : w33.cell? ⟨gb390, 1, none⟩ = some (.slice none 0 0) := (bc BK390.out 1).trans rfl; have hcz36_2 : w33.cell? ⟨gb390, 2, none⟩ = some (.slice none 0 0) := (bc BK390.out 2).trans rfl; have hfz36_0 := bf BK390.out 0; have hfz36_1 := bf BK390.out 1; have hfz36_2 := bf BK390.out 2; obtain ⟨Ao37, co37, eo37⟩ := Kd.R_slice HO385.out; subst eo37; obtain ⟨Ao38, co38, eo38⟩ := Kd.R_slice HO388.out; subst eo38))
        have n0_ : Aside0 (Kd.R k46 46 (((w33.setCell ⟨gb390, 0, none⟩ (.int .i64 t382)).setCell ⟨gb390, 1, none⟩ (.slice Ao37 t383.length co37)).setCell ⟨gb390, 2, none⟩ (.slice Ao38 t386.length co38)) w.heap.size (fun k_ => some k_ ≠ (.slice Ao37 t383.length co37 : Value).ownBlock) (.slice Ao30 t374.length co30) t374) := ⟨by (with_reducible repeat (first | apply Kd.R_alloc | apply Kd.R_drewN | apply Kd.R_drew)); exact Kd.R_mono (Kd.R_far (p := ⟨gb390, 2, none⟩) (Kd.R_far (p := ⟨gb390, 1, none⟩) (Kd.R_far (p := ⟨gb390, 0, none⟩) (Kd.R_types HO376.out BK390.out (by decide)) (fun _ hk => hk.2) (.int .i64 t382)) (fun _ hk => hk.2) (.slice Ao37 t383.length co37)) (fun _ hk => hk.2) (.slice Ao38 t386.length co38)) (fun _ hk => hk.1.2)⟩
        have n1_ : Aside0 (Kd.R k36 36 (((w33.setCell ⟨gb390, 0, none⟩ (.int .i64 t382)).setCell ⟨gb390, 1, none⟩ (.slice Ao37 t383.length co37)).setCell ⟨gb390, 2, none⟩ (.slice Ao38 t386.length co38)) w.heap.size (fun k_ => some k_ ≠ (.slice Ao38 t386.length co38 : Value).ownBlock) (.slice Ao31 t377.length co31) t377) := ⟨by (with_reducible repeat (first | apply Kd.R_alloc | apply Kd.R_drewN | apply Kd.R_drew)); exact Kd.R_mono (Kd.R_far (p := ⟨gb390, 2, none⟩) (Kd.R_far (p := ⟨gb390, 1, none⟩) (Kd.R_far (p := ⟨gb390, 0, none⟩) (Kd.R_types HO379.out BK390.out (by decide)) (fun _ hk => hk.2) (.int .i64 t382)) (fun _ hk => hk.2) (.slice Ao37 t383.length co37)) (fun _ hk => hk.2) (.slice Ao38 t386.length co38)) (fun _ hk => hk.1.2)⟩
        have n2_ : Aside0 (Kd.R k46 46 (((w33.setCell ⟨gb390, 0, none⟩ (.int .i64 t382)).setCell ⟨gb390, 1, none⟩ (.slice Ao37 t383.length co37)).setCell ⟨gb390, 2, none⟩ (.slice Ao38 t386.length co38)) w.heap.size (fun k_ => some k_ ≠ (.slice Ao30 t374.length co30 : Value).ownBlock) (.slice Ao37 t383.length co37) t383) := ⟨by (with_reducible repeat (first | apply Kd.R_alloc | apply Kd.R_drewN | apply Kd.R_drew)); exact Kd.R_mono (Kd.R_far (p := ⟨gb390, 2, none⟩) (Kd.R_far (p := ⟨gb390, 1, none⟩) (Kd.R_far (p := ⟨gb390, 0, none⟩) (Kd.R_types HO385.out BK390.out (by decide)) (fun _ hk => hk.2) (.int .i64 t382)) (fun _ hk => hk.2) (.slice Ao37 t383.length co37)) (fun _ hk => hk.2) (.slice Ao38 t386.length co38)) (fun _ hk => hk.1.2)⟩
        have n3_ : Aside0 (Kd.R k36 36 (((w33.setCell ⟨gb390, 0, none⟩ (.int .i64 t382)).setCell ⟨gb390, 1, none⟩ (.slice Ao37 t383.length co37)).setCell ⟨gb390, 2, none⟩ (.slice Ao38 t386.length co38)) w.heap.size (fun k_ => some k_ ≠ (.slice Ao31 t377.length co31 : Value).ownBlock) (.slice Ao38 t386.length co38) t386) := ⟨by (with_reducible repeat (first | apply Kd.R_alloc | apply Kd.R_drewN | apply Kd.R_drew)); exact Kd.R_mono (Kd.R_far (p := ⟨gb390, 2, none⟩) (Kd.R_far (p := ⟨gb390, 1, none⟩) (Kd.R_far (p := ⟨gb390, 0, none⟩) (Kd.R_types HO388.out BK390.out (by decide)) (fun _ hk => hk.2) (.int .i64 t382)) (fun _ hk => hk.2) (.slice Ao37 t383.length co37)) (fun _ hk => hk.2) (.slice Ao38 t386.length co38)) (fun _ hk => hk.1.2)⟩
        have n4_ : Aside0 ((((w33.setCell ⟨gb390, 0, none⟩ (.int .i64 t382)).setCell ⟨gb390, 1, none⟩ (.slice Ao37 t383.length co37)).setCell ⟨gb390, 2, none⟩ (.slice Ao38 t386.length co38)).heap[gb370]? = some (.cells #[.int .i64 a0_0, .slice A0_1 l0_1.length c0_1, .slice A0_2 l0_2.length c0_2] 25 (0, 0))) := ⟨by (with_reducible repeat (first | refine bn ?_ _ | refine bd ?_ | refine ba ?_ _)); refine blk_far ?_ NB370_390.out _; (with_reducible repeat (first | refine bn ?_ _ | refine bd ?_ | refine ba ?_ _)); refine blk_far ?_ NB370_390.out _; (with_reducible repeat (first | refine bn ?_ _ | refine bd ?_ | refine ba ?_ _)); refine blk_far ?_ NB370_390.out _; (with_reducible repeat (first | refine bn ?_ _ | refine bd ?_ | refine ba ?_ _)); exact BK370.out⟩
        have n5_ : Aside0 ((((w33.setCell ⟨gb390, 0, none⟩ (.int .i64 t382)).setCell ⟨gb390, 1, none⟩ (.slice Ao37 t383.length co37)).setCell ⟨gb390, 2, none⟩ (.slice Ao38 t386.length co38)).heap[gb381]? = some (.cells #[.int .i64 t373, .slice Ao30 t374.length co30, .slice Ao31 t377.length co31] 25 (0, 0))) := ⟨by (with_reducible repeat (first | refine bn ?_ _ | refine bd ?_ | refine ba ?_ _)); refine blk_far ?_ NB381_390.out _; (with_reducible repeat (first | refine bn ?_ _ | refine bd ?_ | refine ba ?_ _)); refine blk_far ?_ NB381_390.out _; (with_reducible repeat (first | refine bn ?_ _ | refine bd ?_ | refine ba ?_ _)); refine blk_far ?_ NB381_390.out _; (with_reducible repeat (first | refine bn ?_ _ | refine bd ?_ | refine ba ?_ _)); exact BK381.out⟩
        have n6_ : Aside0 ((((w33.setCell ⟨gb390, 0, none⟩ (.int .i64 t382)).setCell ⟨gb390, 1, none⟩ (.slice Ao37 t383.length co37)).setCell ⟨gb390, 2, none⟩ (.slice Ao38 t386.length co38)).heap[gb390]? = some (.cells #[.int .i64 t382, .slice Ao37 t383.length co37, .slice Ao38 t386.length co38] 25 (0, 0))) := ⟨by (with_reducible repeat (first | refine bn ?_ _ | refine bd ?_ | refine ba ?_ _)); refine blk_put (cs := #[.int .i64 t382, .slice Ao37 t383.length co37, .slice none 0 0]) ?_ 2 _ rfl; (with_reducible repeat (first | refine bn ?_ _ | refine bd ?_ | refine ba ?_ _)); refine blk_put (cs := #[.int .i64 t382, .slice none 0 0, .slice none 0 0]) ?_ 1 _ rfl; (with_reducible repeat (first | refine bn ?_ _ | refine bd ?_ | refine ba ?_ _)); refine blk_put (cs := #[.int .i64 0, .slice none 0 0, .slice none 0 0]) ?_ 0 _ rfl; (with_reducible repeat (first | refine bn ?_ _ | refine bd ?_ | refine ba ?_ _)); exact BK390.out⟩
        have n7_ : Aside0 (Below w.heap.size w (((w33.setCell ⟨gb390, 0, none⟩ (.int .i64 t382)).setCell ⟨gb390, 1, none⟩ (.slice Ao37 t383.length co37)).setCell ⟨gb390, 2, none⟩ (.slice Ao38 t386.length co38))) := ⟨by repeat (first | (with_reducible first | exact HB.out | apply bl | apply pN | apply b1 | refine bs ?_ GE370.out | refine bs ?_ GE381.out | refine bs ?_ GE390.out) | exact HB.out | exact HBo.out)⟩
        (try clear HO376)
        (try clear HO379)
        (try clear HO385)
        (try clear HO388)
        (try clear BK370)
        (try clear BK381)
        (try clear BK390)
        (try clear HB)
        generalize (((w33.setCell ⟨gb390, 0, none⟩ (.int .i64 t382)).setCell ⟨gb390, 1, none⟩ (.slice Ao37 t383.length co37)).setCell ⟨gb390, 2, none⟩ (.slice Ao38 t386.length co38)) = w39 at n0_ n1_ n2_ n3_ n4_ n5_ n6_ n7_ ⊢
        have HO376 := n0_
        have HO379 := n1_
        have HO385 := n2_
        have HO388 := n3_
        have BK370 := n4_
        have BK381 := n5_
        have BK390 := n6_
        have HB := n7_
        clear n0_ n1_ n2_ n3_ n4_ n5_ n6_ n7_
        have n0_ := Am (Kd.R_drew HO376.out)
        have n1_ := Am (Kd.R_drew HO379.out)
        have n2_ := Am (Kd.R_drew HO385.out)
        have n3_ := Am (Kd.R_drew HO388.out)
        have n4_ := Am (bd BK370.out)
        have n5_ := Am (bd BK381.out)
        have n6_ := Am (bd BK390.out)
        have n7_ := Am (b1 HB.out)
        clear HO376
        clear HO379
        clear HO385
        clear HO388
        clear BK370
        clear BK381
        clear BK390
        clear HB
        have HO376 := n0_
        have HO379 := n1_
        have HO385 := n2_
        have HO388 := n3_
        have BK370 := n4_
        have BK381 := n5_
        have BK390 := n6_
        have HB := n7_
        clear n0_ n1_ n2_ n3_ n4_ n5_ n6_ n7_
        refine start_ (n := 26) (S := fun w' => w'.cell? ⟨gb370, 0, none⟩ = some (.int .i64 a0_0) ∧ w'.cell? ⟨gb370, 1, none⟩ = some (.slice A0_1 l0_1.length c0_1) ∧ w'.cell? ⟨gb370, 2, none⟩ = some (.slice A0_2 l0_2.length c0_2) ∧ w'.cell? ⟨gb381, 0, none⟩ = some (.int .i64 t373) ∧ w'.cell? ⟨gb381, 1, none⟩ = some (.slice Ao30 t374.length co30) ∧ w'.cell? ⟨gb381, 2, none⟩ = some (.slice Ao31 t377.length co31) ∧ w'.cell? ⟨gb390, 0, none⟩ = some (.int .i64 t382) ∧ w'.cell? ⟨gb390, 1, none⟩ = some (.slice Ao37 t383.length co37) ∧ w'.cell? ⟨gb390, 2, none⟩ = some (.slice Ao38 t386.length co38)) (ds := []) q15_0 (by kernel_rfl) rfl rfl ⟨(bc BK370.out 0).trans rfl, (bc BK370.out 1).trans rfl, (bc BK370.out 2).trans rfl, (bc BK381.out 0).trans rfl, (bc BK381.out 1).trans rfl, (bc BK381.out 2).trans rfl, (bc BK390.out 0).trans rfl, (bc BK390.out 1).trans rfl, (bc BK390.out 2).trans rfl⟩ (fun hHeld => ?_); refine with_tabW shuttlecocklaw08_SnapTells.tab5 shuttlecocklaw08_SnapTells.bits5 (fun HT_ HW_ => ?_)
        generalize w39.drew = w40 at HO376 HO379 HO385 HO388 BK370 BK381 BK390 HB hHeld ⊢
        refine one_ (i := 0) (N := some 28) q15_1 rfl rfl (one_of HT_.out (by kernel_rfl)) (by decide) (fun K hK => ?_)
        refine goes_ Try.func9 (by kernel_rfl) rfl #[] (by rfl) rfl rfl (by (try simp only [List.map_toArray, List.map_cons, List.map_nil]); first | done | rfl | (simp only [List.length_drop, List.length_take]; rfl)) ?_
        with_reducible refine (shuttlecocklaw08_fixed.calls kj2  true _ A16.out).mono ?_
        rintro e w41 ⟨rfl, hb⟩
        refine ⟨_, rfl, ?_⟩
        have n0_ := Am (Kd.R_below (by (with_reducible repeat (first | apply Kd.R_alloc | apply Kd.R_drewN | apply Kd.R_drew)); exact HO376.out) hb)
        have n1_ := Am (Kd.R_below (by (with_reducible repeat (first | apply Kd.R_alloc | apply Kd.R_drewN | apply Kd.R_drew)); exact HO379.out) hb)
        have n2_ := Am (Kd.R_below (by (with_reducible repeat (first | apply Kd.R_alloc | apply Kd.R_drewN | apply Kd.R_drew)); exact HO385.out) hb)
        have n3_ := Am (Kd.R_below (by (with_reducible repeat (first | apply Kd.R_alloc | apply Kd.R_drewN | apply Kd.R_drew)); exact HO388.out) hb)
        have n4_ := Am (blk_below (g := gb370) (o := .cells #[.int .i64 a0_0, .slice A0_1 l0_1.length c0_1, .slice A0_2 l0_2.length c0_2] 25 (0, 0)) (by (with_reducible repeat (first | refine bn ?_ _ | refine bd ?_ | refine ba ?_ _)); exact BK370.out) hb)
        have n5_ := Am (blk_below (g := gb381) (o := .cells #[.int .i64 t373, .slice Ao30 t374.length co30, .slice Ao31 t377.length co31] 25 (0, 0)) (by (with_reducible repeat (first | refine bn ?_ _ | refine bd ?_ | refine ba ?_ _)); exact BK381.out) hb)
        have n6_ := Am (blk_below (g := gb390) (o := .cells #[.int .i64 t382, .slice Ao37 t383.length co37, .slice Ao38 t386.length co38] 25 (0, 0)) (by (with_reducible repeat (first | refine bn ?_ _ | refine bd ?_ | refine ba ?_ _)); exact BK390.out) hb)
        have n7_ := Am (below_step (by repeat (first | (with_reducible first | exact HB.out | apply bl | apply pN | apply b1 | refine bs ?_ GE370.out | refine bs ?_ GE381.out | refine bs ?_ GE390.out) | exact HB.out | exact HBo.out)) hb)
        clear HO376
        clear HO379
        clear HO385
        clear HO388
        clear BK370
        clear BK381
        clear BK390
        clear HB
        have HO376 := n0_
        have HO379 := n1_
        have HO385 := n2_
        have HO388 := n3_
        have BK370 := n4_
        have BK381 := n5_
        have BK390 := n6_
        have HB := n7_
        clear n0_ n1_ n2_ n3_ n4_ n5_ n6_ n7_
        (try clear hb)
        (try clear hb2)
        (try clear hk)
        (try clear hi)
        refine hK.out _ _ ⟨(bc BK370.out 0).trans rfl, (bc BK370.out 1).trans rfl, (bc BK370.out 2).trans rfl, (bc BK381.out 0).trans rfl, (bc BK381.out 1).trans rfl, (bc BK381.out 2).trans rfl, (bc BK390.out 0).trans rfl, (bc BK390.out 1).trans rfl, (bc BK390.out 2).trans rfl⟩ (fun hHeld => ?_)
        clear hK K
        refine norm_ (a' := ?_) ?_ ?_
        rotate_left
        ·
         show Act.put _ (some 28) _ = _
         simp only [Act.put, sI, sZ, sS, i64_w, i32_w]
         rfl
        refine Own.pr_ 1 (some 29) q15_2 HT_ (h := ?_)
        refine Own.tk_ 2 (some 30) q15_3 HT_ HW_ hHeld (hy := by rintro w' ⟨s0, s1, s2, s3, s4, s5, s6, s7, s8⟩; go_simp; with_reducible rfl) (h := ?_)
        refine Own.tk_ 4 (some 32) q15_4 HT_ HW_ hHeld (hy := by rintro w' ⟨s0, s1, s2, s3, s4, s5, s6, s7, s8⟩; go_simp; with_reducible rfl) (h := ?_)
        refine one_ (i := 3) (N := some 31) q15_5 rfl rfl (one_of HT_.out (by kernel_rfl)) (by decide) (fun K hK => ?_)
        refine goes_ Try.func12 (by kernel_rfl) rfl #[.agg #[.int .i64 a0_0, .slice A0_1 l0_1.length c0_1, .slice A0_2 l0_2.length c0_2]] (by rfl) rfl rfl (by (try simp only [List.map_toArray, List.map_cons, List.map_nil]); first | done | rfl | (simp only [List.length_drop, List.length_take]; rfl)) ?_
        with_reducible refine (snap_May.calls a0_0 _ _ l0_1 _ _ l0_2 t392 _ ?side1 ?side2 ?side3 ?side4 A18.out).mono ?_
        (case side1 => repeat (first | exact (Kd.C_below HR0_1.out HB.out) | (with_reducible refine Kd.C_alloc ?_ _) | (with_reducible refine Kd.C_drewN ?_ _) | (with_reducible refine Kd.C_drew ?_)))
        (case side2 => exact HC0_1.out)
        (case side3 => repeat (first | exact (Kd.C_below HR0_2.out HB.out) | (with_reducible refine Kd.C_alloc ?_ _) | (with_reducible refine Kd.C_drewN ?_ _) | (with_reducible refine Kd.C_drew ?_)))
        (case side4 => exact HC0_2.out)
        rintro e w42 ⟨rfl, hb⟩
        refine ⟨_, rfl, ?_⟩
        have n0_ := Am (Kd.R_below (by (with_reducible repeat (first | apply Kd.R_alloc | apply Kd.R_drewN | apply Kd.R_drew)); exact HO376.out) hb)
        have n1_ := Am (Kd.R_below (by (with_reducible repeat (first | apply Kd.R_alloc | apply Kd.R_drewN | apply Kd.R_drew)); exact HO379.out) hb)
        have n2_ := Am (Kd.R_below (by (with_reducible repeat (first | apply Kd.R_alloc | apply Kd.R_drewN | apply Kd.R_drew)); exact HO385.out) hb)
        have n3_ := Am (Kd.R_below (by (with_reducible repeat (first | apply Kd.R_alloc | apply Kd.R_drewN | apply Kd.R_drew)); exact HO388.out) hb)
        have n4_ := Am (blk_below (g := gb370) (o := .cells #[.int .i64 a0_0, .slice A0_1 l0_1.length c0_1, .slice A0_2 l0_2.length c0_2] 25 (0, 0)) (by (with_reducible repeat (first | refine bn ?_ _ | refine bd ?_ | refine ba ?_ _)); exact BK370.out) hb)
        have n5_ := Am (blk_below (g := gb381) (o := .cells #[.int .i64 t373, .slice Ao30 t374.length co30, .slice Ao31 t377.length co31] 25 (0, 0)) (by (with_reducible repeat (first | refine bn ?_ _ | refine bd ?_ | refine ba ?_ _)); exact BK381.out) hb)
        have n6_ := Am (blk_below (g := gb390) (o := .cells #[.int .i64 t382, .slice Ao37 t383.length co37, .slice Ao38 t386.length co38] 25 (0, 0)) (by (with_reducible repeat (first | refine bn ?_ _ | refine bd ?_ | refine ba ?_ _)); exact BK390.out) hb)
        have n7_ := Am (below_step (by repeat (first | (with_reducible first | exact HB.out | apply bl | apply pN | apply b1 | refine bs ?_ GE370.out | refine bs ?_ GE381.out | refine bs ?_ GE390.out) | exact HB.out | exact HBo.out)) hb)
        clear HO376
        clear HO379
        clear HO385
        clear HO388
        clear BK370
        clear BK381
        clear BK390
        clear HB
        have HO376 := n0_
        have HO379 := n1_
        have HO385 := n2_
        have HO388 := n3_
        have BK370 := n4_
        have BK381 := n5_
        have BK390 := n6_
        have HB := n7_
        clear n0_ n1_ n2_ n3_ n4_ n5_ n6_ n7_
        (try clear hb)
        (try clear hb2)
        (try clear hk)
        (try clear hi)
        refine hK.out _ _ ⟨(bc BK370.out 0).trans rfl, (bc BK370.out 1).trans rfl, (bc BK370.out 2).trans rfl, (bc BK381.out 0).trans rfl, (bc BK381.out 1).trans rfl, (bc BK381.out 2).trans rfl, (bc BK390.out 0).trans rfl, (bc BK390.out 1).trans rfl, (bc BK390.out 2).trans rfl⟩ (fun hHeld => ?_)
        clear hK K
        refine norm_ (a' := ?_) ?_ ?_
        rotate_left
        ·
         show Act.put _ (some 31) _ = _
         simp only [Act.put, sI, sZ, sS, i64_w, i32_w]
         rfl
        refine one_ (i := 5) (N := some 33) q15_6 rfl rfl (one_of HT_.out (by kernel_rfl)) (by decide) (fun K hK => ?_)
        refine goes_ Try.func13 (by kernel_rfl) rfl #[.agg #[.int .i64 a0_0, .slice A0_1 l0_1.length c0_1, .slice A0_2 l0_2.length c0_2]] (by rfl) rfl rfl (by (try simp only [List.map_toArray, List.map_cons, List.map_nil]); first | done | rfl | (simp only [List.length_drop, List.length_take]; rfl)) ?_
        with_reducible refine (shuttlecockref08_May.calls a0_0 _ _ l0_1 _ _ l0_2 t393 _ ?side1 ?side2 ?side3 ?side4 A19.out).mono ?_
        (case side1 => repeat (first | exact (Kd.C_below HR0_1.out HB.out) | (with_reducible refine Kd.C_alloc ?_ _) | (with_reducible refine Kd.C_drewN ?_ _) | (with_reducible refine Kd.C_drew ?_)))
        (case side2 => exact HC0_1.out)
        (case side3 => repeat (first | exact (Kd.C_below HR0_2.out HB.out) | (with_reducible refine Kd.C_alloc ?_ _) | (with_reducible refine Kd.C_drewN ?_ _) | (with_reducible refine Kd.C_drew ?_)))
        (case side4 => exact HC0_2.out)
        rintro e w43 ⟨rfl, hb⟩
        refine ⟨_, rfl, ?_⟩
        have n0_ := Am (Kd.R_below (by (with_reducible repeat (first | apply Kd.R_alloc | apply Kd.R_drewN | apply Kd.R_drew)); exact HO376.out) hb)
        have n1_ := Am (Kd.R_below (by (with_reducible repeat (first | apply Kd.R_alloc | apply Kd.R_drewN | apply Kd.R_drew)); exact HO379.out) hb)
        have n2_ := Am (Kd.R_below (by (with_reducible repeat (first | apply Kd.R_alloc | apply Kd.R_drewN | apply Kd.R_drew)); exact HO385.out) hb)
        have n3_ := Am (Kd.R_below (by (with_reducible repeat (first | apply Kd.R_alloc | apply Kd.R_drewN | apply Kd.R_drew)); exact HO388.out) hb)
        have n4_ := Am (blk_below (g := gb370) (o := .cells #[.int .i64 a0_0, .slice A0_1 l0_1.length c0_1, .slice A0_2 l0_2.length c0_2] 25 (0, 0)) (by (with_reducible repeat (first | refine bn ?_ _ | refine bd ?_ | refine ba ?_ _)); exact BK370.out) hb)
        have n5_ := Am (blk_below (g := gb381) (o := .cells #[.int .i64 t373, .slice Ao30 t374.length co30, .slice Ao31 t377.length co31] 25 (0, 0)) (by (with_reducible repeat (first | refine bn ?_ _ | refine bd ?_ | refine ba ?_ _)); exact BK381.out) hb)
        have n6_ := Am (blk_below (g := gb390) (o := .cells #[.int .i64 t382, .slice Ao37 t383.length co37, .slice Ao38 t386.length co38] 25 (0, 0)) (by (with_reducible repeat (first | refine bn ?_ _ | refine bd ?_ | refine ba ?_ _)); exact BK390.out) hb)
        have n7_ := Am (below_step (by repeat (first | (with_reducible first | exact HB.out | apply bl | apply pN | apply b1 | refine bs ?_ GE370.out | refine bs ?_ GE381.out | refine bs ?_ GE390.out) | exact HB.out | exact HBo.out)) hb)
        clear HO376
        clear HO379
        clear HO385
        clear HO388
        clear BK370
        clear BK381
        clear BK390
        clear HB
        have HO376 := n0_
        have HO379 := n1_
        have HO385 := n2_
        have HO388 := n3_
        have BK370 := n4_
        have BK381 := n5_
        have BK390 := n6_
        have HB := n7_
        clear n0_ n1_ n2_ n3_ n4_ n5_ n6_ n7_
        (try clear hb)
        (try clear hb2)
        (try clear hk)
        (try clear hi)
        refine hK.out _ _ ⟨(bc BK370.out 0).trans rfl, (bc BK370.out 1).trans rfl, (bc BK370.out 2).trans rfl, (bc BK381.out 0).trans rfl, (bc BK381.out 1).trans rfl, (bc BK381.out 2).trans rfl, (bc BK390.out 0).trans rfl, (bc BK390.out 1).trans rfl, (bc BK390.out 2).trans rfl⟩ (fun hHeld => ?_)
        clear hK K
        refine norm_ (a' := ?_) ?_ ?_
        rotate_left
        ·
         show Act.put _ (some 33) _ = _
         simp only [Act.put, sI, sZ, sS, i64_w, i32_w]
         rfl
        refine Own.pr_ 6 (some 34) q15_7 HT_ (h := ?_)
        refine Own.pr_ 7 (some 35) q15_8 HT_ (h := ?_)
        refine Own.pr_ 8 (some 36) q15_9 HT_ (h := ?_)
        refine Own.tk_ 9 (some 37) q15_10 HT_ HW_ hHeld (hy := by rintro w' ⟨s0, s1, s2, s3, s4, s5, s6, s7, s8⟩; go_simp; with_reducible rfl) (h := ?_)
        refine Own.tk_ 11 (some 39) q15_11 HT_ HW_ hHeld (hy := by rintro w' ⟨s0, s1, s2, s3, s4, s5, s6, s7, s8⟩; go_simp; with_reducible rfl) (h := ?_)
        refine one_ (i := 10) (N := some 38) q15_12 rfl rfl (one_of HT_.out (by kernel_rfl)) (by decide) (fun K hK => ?_)
        refine goes_ Try.func14 (by kernel_rfl) rfl #[.agg #[.int .i64 a0_0, .slice A0_1 l0_1.length c0_1, .slice A0_2 l0_2.length c0_2]] (by rfl) rfl rfl (by (try simp only [List.map_toArray, List.map_cons, List.map_nil]); first | done | rfl | (simp only [List.length_drop, List.length_take]; rfl)) ?_
        with_reducible refine (snap_Encode.calls kj2 a0_0 _ _ l0_1 _ _ l0_2 t394 _ ?side1 ?side2 ?side3 ?side4 A21.out).mono ?_
        (case side1 => repeat (first | exact (Kd.C_below HR0_1.out HB.out) | (with_reducible refine Kd.C_alloc ?_ _) | (with_reducible refine Kd.C_drewN ?_ _) | (with_reducible refine Kd.C_drew ?_)))
        (case side2 => exact HC0_1.out)
        (case side3 => repeat (first | exact (Kd.C_below HR0_2.out HB.out) | (with_reducible refine Kd.C_alloc ?_ _) | (with_reducible refine Kd.C_drewN ?_ _) | (with_reducible refine Kd.C_drew ?_)))
        (case side4 => exact HC0_2.out)
        rintro e w44 ⟨rfl, hb⟩
        refine ⟨_, rfl, ?_⟩
        have n0_ := Am (Kd.R_below (by (with_reducible repeat (first | apply Kd.R_alloc | apply Kd.R_drewN | apply Kd.R_drew)); exact HO376.out) hb)
        have n1_ := Am (Kd.R_below (by (with_reducible repeat (first | apply Kd.R_alloc | apply Kd.R_drewN | apply Kd.R_drew)); exact HO379.out) hb)
        have n2_ := Am (Kd.R_below (by (with_reducible repeat (first | apply Kd.R_alloc | apply Kd.R_drewN | apply Kd.R_drew)); exact HO385.out) hb)
        have n3_ := Am (Kd.R_below (by (with_reducible repeat (first | apply Kd.R_alloc | apply Kd.R_drewN | apply Kd.R_drew)); exact HO388.out) hb)
        have n4_ := Am (blk_below (g := gb370) (o := .cells #[.int .i64 a0_0, .slice A0_1 l0_1.length c0_1, .slice A0_2 l0_2.length c0_2] 25 (0, 0)) (by (with_reducible repeat (first | refine bn ?_ _ | refine bd ?_ | refine ba ?_ _)); exact BK370.out) hb)
        have n5_ := Am (blk_below (g := gb381) (o := .cells #[.int .i64 t373, .slice Ao30 t374.length co30, .slice Ao31 t377.length co31] 25 (0, 0)) (by (with_reducible repeat (first | refine bn ?_ _ | refine bd ?_ | refine ba ?_ _)); exact BK381.out) hb)
        have n6_ := Am (blk_below (g := gb390) (o := .cells #[.int .i64 t382, .slice Ao37 t383.length co37, .slice Ao38 t386.length co38] 25 (0, 0)) (by (with_reducible repeat (first | refine bn ?_ _ | refine bd ?_ | refine ba ?_ _)); exact BK390.out) hb)
        have n7_ := Am (below_step (by repeat (first | (with_reducible first | exact HB.out | apply bl | apply pN | apply b1 | refine bs ?_ GE370.out | refine bs ?_ GE381.out | refine bs ?_ GE390.out) | exact HB.out | exact HBo.out)) hb)
        clear HO376
        clear HO379
        clear HO385
        clear HO388
        clear BK370
        clear BK381
        clear BK390
        clear HB
        have HO376 := n0_
        have HO379 := n1_
        have HO385 := n2_
        have HO388 := n3_
        have BK370 := n4_
        have BK381 := n5_
        have BK390 := n6_
        have HB := n7_
        clear n0_ n1_ n2_ n3_ n4_ n5_ n6_ n7_
        (try clear hb)
        (try clear hb2)
        (try clear hk)
        (try clear hi)
        refine hK.out _ _ ⟨(bc BK370.out 0).trans rfl, (bc BK370.out 1).trans rfl, (bc BK370.out 2).trans rfl, (bc BK381.out 0).trans rfl, (bc BK381.out 1).trans rfl, (bc BK381.out 2).trans rfl, (bc BK390.out 0).trans rfl, (bc BK390.out 1).trans rfl, (bc BK390.out 2).trans rfl⟩ (fun hHeld => ?_)
        clear hK K
        refine norm_ (a' := ?_) ?_ ?_
        rotate_left
        ·
         show Act.put _ (some 38) _ = _
         simp only [Act.put, sI, sZ, sS, i64_w, i32_w]
         rfl
        refine one_ (i := 12) (N := some 40) q15_13 rfl rfl (one_of HT_.out (by kernel_rfl)) (by decide) (fun K hK => ?_)
        refine goes_ Try.func15 (by kernel_rfl) rfl #[.agg #[.int .i64 a0_0, .slice A0_1 l0_1.length c0_1, .slice A0_2 l0_2.length c0_2]] (by rfl) rfl rfl (by (try simp only [List.map_toArray, List.map_cons, List.map_nil]); first | done | rfl | (simp only [List.length_drop, List.length_take]; rfl)) ?_
        with_reducible refine (shuttlecockref08_Encode.calls kj2 a0_0 _ _ l0_1 _ _ l0_2 t395 _ ?side1 ?side2 ?side3 ?side4 A22.out).mono ?_
        (case side1 => repeat (first | exact (Kd.C_below HR0_1.out HB.out) | (with_reducible refine Kd.C_alloc ?_ _) | (with_reducible refine Kd.C_drewN ?_ _) | (with_reducible refine Kd.C_drew ?_)))
        (case side2 => exact HC0_1.out)
        (case side3 => repeat (first | exact (Kd.C_below HR0_2.out HB.out) | (with_reducible refine Kd.C_alloc ?_ _) | (with_reducible refine Kd.C_drewN ?_ _) | (with_reducible refine Kd.C_drew ?_)))
        (case side4 => exact HC0_2.out)
        rintro e w45 ⟨rfl, hb⟩
        refine ⟨_, rfl, ?_⟩
        have n0_ := Am (Kd.R_below (by (with_reducible repeat (first | apply Kd.R_alloc | apply Kd.R_drewN | apply Kd.R_drew)); exact HO376.out) hb)
        have n1_ := Am (Kd.R_below (by (with_reducible repeat (first | apply Kd.R_alloc | apply Kd.R_drewN | apply Kd.R_drew)); exact HO379.out) hb)
        have n2_ := Am (Kd.R_below (by (with_reducible repeat (first | apply Kd.R_alloc | apply Kd.R_drewN | apply Kd.R_drew)); exact HO385.out) hb)
        have n3_ := Am (Kd.R_below (by (with_reducible repeat (first | apply Kd.R_alloc | apply Kd.R_drewN | apply Kd.R_drew)); exact HO388.out) hb)
        have n4_ := Am (blk_below (g := gb370) (o := .cells #[.int .i64 a0_0, .slice A0_1 l0_1.length c0_1, .slice A0_2 l0_2.length c0_2] 25 (0, 0)) (by (with_reducible repeat (first | refine bn ?_ _ | refine bd ?_ | refine ba ?_ _)); exact BK370.out) hb)
        have n5_ := Am (blk_below (g := gb381) (o := .cells #[.int .i64 t373, .slice Ao30 t374.length co30, .slice Ao31 t377.length co31] 25 (0, 0)) (by (with_reducible repeat (first | refine bn ?_ _ | refine bd ?_ | refine ba ?_ _)); exact BK381.out) hb)
        have n6_ := Am (blk_below (g := gb390) (o := .cells #[.int .i64 t382, .slice Ao37 t383.length co37, .slice Ao38 t386.length co38] 25 (0, 0)) (by (with_reducible repeat (first | refine bn ?_ _ | refine bd ?_ | refine ba ?_ _)); exact BK390.out) hb)
        have n7_ := Am (below_step (by repeat (first | (with_reducible first | exact HB.out | apply bl | apply pN | apply b1 | refine bs ?_ GE370.out | refine bs ?_ GE381.out | refine bs ?_ GE390.out) | exact HB.out | exact HBo.out)) hb)
        clear HO376
        clear HO379
        clear HO385
        clear HO388
        clear BK370
        clear BK381
        clear BK390
        clear HB
        have HO376 := n0_
        have HO379 := n1_
        have HO385 := n2_
        have HO388 := n3_
        have BK370 := n4_
        have BK381 := n5_
        have BK390 := n6_
        have HB := n7_
        clear n0_ n1_ n2_ n3_ n4_ n5_ n6_ n7_
        (try clear hb)
        (try clear hb2)
        (try clear hk)
        (try clear hi)
        refine hK.out _ _ ⟨(bc BK370.out 0).trans rfl, (bc BK370.out 1).trans rfl, (bc BK370.out 2).trans rfl, (bc BK381.out 0).trans rfl, (bc BK381.out 1).trans rfl, (bc BK381.out 2).trans rfl, (bc BK390.out 0).trans rfl, (bc BK390.out 1).trans rfl, (bc BK390.out 2).trans rfl⟩ (fun hHeld => ?_)
        clear hK K
        refine norm_ (a' := ?_) ?_ ?_
        rotate_left
        ·
         show Act.put _ (some 40) _ = _
         simp only [Act.put, sI, sZ, sS, i64_w, i32_w]
         rfl
        refine Own.pr_ 13 (some 41) q15_14 HT_ (h := ?_)
        refine Own.pr_ 14 (some 42) q15_15 HT_ (h := ?_)
        refine Own.pr_ 15 (some 43) q15_16 HT_ (h := ?_)
        refine Own.tk_ 16 (some 44) q15_17 HT_ HW_ hHeld (hy := by rintro w' ⟨s0, s1, s2, s3, s4, s5, s6, s7, s8⟩; go_simp; with_reducible rfl) (h := ?_)
        refine Own.tk_ 17 (some 45) q15_18 HT_ HW_ hHeld (hy := by rintro w' ⟨s0, s1, s2, s3, s4, s5, s6, s7, s8⟩; go_simp; with_reducible rfl) (h := ?_)
        refine one_ (i := 18) (N := some 46) q15_19 rfl rfl (one_of HT_.out (by kernel_rfl)) (by decide) (fun K hK => ?_)
        refine goes_ Try.func16 (by kernel_rfl) rfl #[.agg #[.int .i64 t373, .slice Ao30 t374.length co30, .slice Ao31 t377.length co31], .agg #[.int .i64 t382, .slice Ao37 t383.length co37, .slice Ao38 t386.length co38]] (by rfl) rfl rfl (by (try simp only [List.map_toArray, List.map_cons, List.map_nil]); first | done | rfl | (simp only [List.length_drop, List.length_take]; rfl)) ?_
        with_reducible refine (shuttlecockref08_Same.calls kj2 t373 _ _ t374 _ _ t377 t382 _ _ t383 _ _ t386 true _ ?side1 ?side2 ?side3 ?side4 ?side5 ?side6 ?side7 ?side8 A24.out).mono ?_
        (case side1 => repeat (first | exact (Kd.R_reads' HO376.out).2.2 | (with_reducible refine Kd.C_alloc ?_ _) | (with_reducible refine Kd.C_drewN ?_ _) | (with_reducible refine Kd.C_drew ?_)))
        (case side2 => exact (Kd.R_reads' HO376.out).2.1)
        (case side3 => repeat (first | exact (Kd.R_reads' HO379.out).2.2 | (with_reducible refine Kd.C_alloc ?_ _) | (with_reducible refine Kd.C_drewN ?_ _) | (with_reducible refine Kd.C_drew ?_)))
        (case side4 => exact (Kd.R_reads' HO379.out).2.1)
        (case side5 => repeat (first | exact (Kd.R_reads' HO385.out).2.2 | (with_reducible refine Kd.C_alloc ?_ _) | (with_reducible refine Kd.C_drewN ?_ _) | (with_reducible refine Kd.C_drew ?_)))
        (case side6 => exact (Kd.R_reads' HO385.out).2.1)
        (case side7 => repeat (first | exact (Kd.R_reads' HO388.out).2.2 | (with_reducible refine Kd.C_alloc ?_ _) | (with_reducible refine Kd.C_drewN ?_ _) | (with_reducible refine Kd.C_drew ?_)))
        (case side8 => exact (Kd.R_reads' HO388.out).2.1)
        rintro e w46 ⟨rfl, hb⟩
        refine ⟨_, rfl, ?_⟩
        have n0_ := Am (Kd.R_below (by (with_reducible repeat (first | apply Kd.R_alloc | apply Kd.R_drewN | apply Kd.R_drew)); exact HO376.out) hb)
        have n1_ := Am (Kd.R_below (by (with_reducible repeat (first | apply Kd.R_alloc | apply Kd.R_drewN | apply Kd.R_drew)); exact HO379.out) hb)
        have n2_ := Am (Kd.R_below (by (with_reducible repeat (first | apply Kd.R_alloc | apply Kd.R_drewN | apply Kd.R_drew)); exact HO385.out) hb)
        have n3_ := Am (Kd.R_below (by (with_reducible repeat (first | apply Kd.R_alloc | apply Kd.R_drewN | apply Kd.R_drew)); exact HO388.out) hb)
        have n4_ := Am (blk_below (g := gb370) (o := .cells #[.int .i64 a0_0, .slice A0_1 l0_1.length c0_1, .slice A0_2 l0_2.length c0_2] 25 (0, 0)) (by (with_reducible repeat (first | refine bn ?_ _ | refine bd ?_ | refine ba ?_ _)); exact BK370.out) hb)
        have n5_ := Am (blk_below (g := gb381) (o := .cells #[.int .i64 t373, .slice Ao30 t374.length co30, .slice Ao31 t377.length co31] 25 (0, 0)) (by (with_reducible repeat (first | refine bn ?_ _ | refine bd ?_ | refine ba ?_ _)); exact BK381.out) hb)
        have n6_ := Am (blk_below (g := gb390) (o := .cells #[.int .i64 t382, .slice Ao37 t383.length co37, .slice Ao38 t386.length co38] 25 (0, 0)) (by (with_reducible repeat (first | refine bn ?_ _ | refine bd ?_ | refine ba ?_ _)); exact BK390.out) hb)
        have n7_ := Am (below_step (by repeat (first | (with_reducible first | exact HB.out | apply bl | apply pN | apply b1 | refine bs ?_ GE370.out | refine bs ?_ GE381.out | refine bs ?_ GE390.out) | exact HB.out | exact HBo.out)) hb)
        clear HO376
        clear HO379
        clear HO385
        clear HO388
        clear BK370
        clear BK381
        clear BK390
        clear HB
        have HO376 := n0_
        have HO379 := n1_
        have HO385 := n2_
        have HO388 := n3_
        have BK370 := n4_
        have BK381 := n5_
        have BK390 := n6_
        have HB := n7_
        clear n0_ n1_ n2_ n3_ n4_ n5_ n6_ n7_
        (try clear hb)
        (try clear hb2)
        (try clear hk)
        (try clear hi)
        refine hK.out _ _ ⟨(bc BK370.out 0).trans rfl, (bc BK370.out 1).trans rfl, (bc BK370.out 2).trans rfl, (bc BK381.out 0).trans rfl, (bc BK381.out 1).trans rfl, (bc BK381.out 2).trans rfl, (bc BK390.out 0).trans rfl, (bc BK390.out 1).trans rfl, (bc BK390.out 2).trans rfl⟩ (fun hHeld => ?_)
        clear hK K
        refine norm_ (a' := ?_) ?_ ?_
        rotate_left
        ·
         show Act.put _ (some 46) _ = _
         simp only [Act.put, sI, sZ, sS, i64_w, i32_w]
         rfl
        refine Own.pr_ 19 (some 47) q15_20 HT_ (h := ?_)
        refine Own.pr_ 20 (some 48) q15_21 HT_ (h := ?_)
        refine Own.pr_ 21 (some 49) q15_22 HT_ (h := ?_)
        refine Own.pr_ 22 (some 50) q15_23 HT_ (h := ?_)
        refine Own.pr_ 23 (some 51) q15_24 HT_ (h := ?_)
        refine Own.pr_ 24 (some 52) q15_25 HT_ (h := ?_)
        refine Own.pr_ 25 (some 4) q15_26 HT_ (h := ?_)
        refine done_ (done_of HT_.out (by kernel_rfl)) ?_
        try go_wp2
        go_ret
        exact ⟨by first | rfl | (simp [errW_none, errW_some] <;> rfl) | (simp [*, errW_none, errW_some] <;> rfl) | (simp [Aid.ne_nil, Aid.eq_nil, errW_none, errW_some]; done), by repeat (first | (with_reducible first | exact HB.out | apply bl | apply pN | apply b1 | refine bs ?_ GE370.out | refine bs ?_ GE381.out | refine bs ?_ GE390.out) | exact HB.out | exact HBo.out)⟩
       ·
        replace c25 := Bool.eq_false_iff.mpr c25
        subst c25
        have H1 : (none) = some r := by rw [if_neg (show ¬ (false = true) by decide)] at H; exact H
        clear H
        have H := H1
        clear H1
        exact absurd H (by simp)
      ·
       rw [if_neg c23] at H
       have c23b0 : (t394.toList == t395.toList) = false := beq_eq_false_iff_ne.mpr c23
       have c23b1 : (t394.toList != t395.toList) = true := bne_iff_ne.mpr c23
       exact absurd H (by simp)
     ·
      rw [if_neg c20] at H
      have c20b0 : (t392 == t393) = false := by simpa using c20
      (try (have c20b1 : decide (t392 = t393) = false := by simpa using c20))
      (try (have c20b2 : (t392 == t393) = false := by simpa using c20))
      (try (have c20b3 : ¬ (t392 = t393) := by simpa using c20))
      clear c20
      exact absurd H (by simp)
    ·
     replace c17 := Bool.eq_false_iff.mpr c17
     subst c17
     have H1 : (none) = some r := by rw [if_neg (show ¬ (false = true) by decide)] at H; exact H
     clear H
     have H := H1
     clear H1
     exact absurd H (by simp)

/-- THE ONE PURE STATEMENT of shuttlecocklaw08_SnapTells (own row). -/
def shuttlecocklaw08_SnapTells.Pure : Prop := ∀ (y0 : S25) (y1 : ByteArray), ((Lit.int .i64 y0.f0).wf = true ∧ ((∀ e5 ∈ y0.f1, ((Lit.int .i64 e5.f0).wf = true ∧ (Lit.int .i64 e5.f1).wf = true)) ∧ y0.f1.length ≤ maxLen) ∧ ((∀ e5 ∈ y0.f2, ((Lit.int .i64 e5.f0).wf = true ∧ (Lit.int .i64 e5.f1).wf = true ∧ (Lit.int .i64 e5.f2).wf = true ∧ (Lit.int .i64 e5.f3).wf = true)) ∧ y0.f2.length ≤ maxLen)) → y1.size ≤ maxLen → ∃ k, shuttlecocklaw08_SnapTells.f k y0.f0 y0.f1 y0.f2 y1 = some true

end Go.Proofs.Ythfdhoegboeaeaa.Q
