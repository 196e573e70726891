-- printed by a program of this session (NOTES: hprint); not the kit's print
-- minified
-- halved
import Derived.Test.YthfdhoegboeaeaaAl
import Derived.Test.YthfdhoegboeaeaaQx0
import Derived.Test.YthfdhoegboeaeaaQx1
import Derived.Test.YthfdhoegboeaeaaQx2
namespace Go.Proofs.Ythfdhoegboeaeaa.Q
open Go.RowKit Go.Proofs.YthfdhoegboeaeaaW.PrintWords Go.Proofs.YthfdhoegboeaeaaW.PrintLast Go.Proofs.YthfdhoegboeaeaaW.PrintMore
attribute [local go_sem] max2_int min2_int max_two min_two max_three min_three max_four min_four   -- for this text's walks alone
set_option linter.unusedVariables false
set_option linter.unusedSimpArgs false

attribute [local go_sem high] eqA36 eqA46
/-! ### shuttlecockref08_Same: function 16 -/
mutual
def shuttlecockref08_Same.j0 : Nat → Bool → Int → List (S46) → List (S36) → Int → List (S46) → List (S36) → Option (Bool)
 | 0, _, _, _, _, _, _, _ => none
 | k + 1, x29, x192000, x192001, x192002, x193000, x193001, x193002 => if x29 = true then (some false) else (shuttlecockref08_Same.l0 k 0 x192000 x192001 x192002 x193000 x193001 x193002)
def shuttlecockref08_Same.l0 : Nat → Int → Int → List (S46) → List (S36) → Int → List (S46) → List (S36) → Option (Bool)
 | 0, _, _, _, _, _, _, _ => none
 | k + 1, x5, x192000, x192001, x192002, x193000, x193001, x193002 => if x5 < (x192001.length : Int) then (if 0 ≤ x5 then (if x5 < (x193001.length : Int) then (if (!(((rd_T46 x192001 x5).f0) == ((rd_T46 x193001 x5).f0)) || (!(((rd_T46 x192001 x5).f1) == ((rd_T46 x193001 x5).f1)))) = true then (some false) else (shuttlecockref08_Same.l0 k (wrap64 (x5 + 1)) x192000 x192001 x192002 x193000 x193001 x193002)) else (none)) else (none)) else (shuttlecockref08_Same.l1 k 0 x192000 x192001 x192002 x193000 x193001 x193002)
def shuttlecockref08_Same.l1 : Nat → Int → Int → List (S46) → List (S36) → Int → List (S46) → List (S36) → Option (Bool)
 | 0, _, _, _, _, _, _, _ => none
 | k + 1, x6, x192000, x192001, x192002, x193000, x193001, x193002 => if x6 < (x192002.length : Int) then (if 0 ≤ x6 then (if x6 < (x193002.length : Int) then (if (!(((rd_T36 x192002 x6).f0) == ((rd_T36 x193002 x6).f0)) || (!(((rd_T36 x192002 x6).f1) == ((rd_T36 x193002 x6).f1)) || (!(((rd_T36 x192002 x6).f2) == ((rd_T36 x193002 x6).f2)) || (!(((rd_T36 x192002 x6).f3) == ((rd_T36 x193002 x6).f3)))))) = true then (some false) else (shuttlecockref08_Same.l1 k (wrap64 (x6 + 1)) x192000 x192001 x192002 x193000 x193001 x193002)) else (none)) else (none)) else (some true)
end
def shuttlecockref08_Same.f (k : Nat) (a0_0 : Int) (l0_1 : List (S46)) (l0_2 : List (S36)) (a1_0 : Int) (l1_1 : List (S46)) (l1_2 : List (S36)) : Option (Bool) := if a0_0 = a1_0 then (if (l0_1.length : Int) = (l1_1.length : Int) then (shuttlecockref08_Same.j0 k ((l0_2.length : Int) != (l1_2.length : Int)) a0_0 l0_1 l0_2 a1_0 l1_1 l1_2) else (shuttlecockref08_Same.j0 k true a0_0 l0_1 l0_2 a1_0 l1_1 l1_2)) else (shuttlecockref08_Same.j0 k true a0_0 l0_1 l0_2 a1_0 l1_1 l1_2)
theorem shuttlecockref08_Same.mono_l : ∀ k, (∀ y0 y1 y2 y3 y4 y5 y6, LeO (shuttlecockref08_Same.j0 k y0 y1 y2 y3 y4 y5 y6) (shuttlecockref08_Same.j0 (k + 1) y0 y1 y2 y3 y4 y5 y6)) ∧ (∀ y0 y1 y2 y3 y4 y5 y6, LeO (shuttlecockref08_Same.l0 k y0 y1 y2 y3 y4 y5 y6) (shuttlecockref08_Same.l0 (k + 1) y0 y1 y2 y3 y4 y5 y6)) ∧ (∀ y0 y1 y2 y3 y4 y5 y6, LeO (shuttlecockref08_Same.l1 k y0 y1 y2 y3 y4 y5 y6) (shuttlecockref08_Same.l1 (k + 1) y0 y1 y2 y3 y4 y5 y6))
 | 0 => ⟨fun _ _ _ _ _ _ _ r h => by simp [shuttlecockref08_Same.j0] at h, fun _ _ _ _ _ _ _ r h => by simp [shuttlecockref08_Same.l0] at h, fun _ _ _ _ _ _ _ r h => by simp [shuttlecockref08_Same.l1] at h⟩
 | k + 1 => by
  obtain ⟨ih0, ih1, ih2⟩ := shuttlecockref08_Same.mono_l k
  refine ⟨?_, ?_, ?_⟩
  ·
   intro y0 y1 y2 y3 y4 y5 y6
   unfold shuttlecockref08_Same.j0
   repeat' first
   | (with_reducible exact ih0 _ _ _ _ _ _ _)
   | (with_reducible exact ih1 _ _ _ _ _ _ _)
   | (with_reducible exact ih2 _ _ _ _ _ _ _)
   | (with_reducible exact LeO.refl _)
   | (with_reducible exact LeO.none _)
   | (with_reducible refine LeO.ite ?_ ?_)
   | (with_reducible refine LeO.bind ?_ (fun _ => ?_))
   | exact ih0 _ _ _ _ _ _ _
   | exact ih1 _ _ _ _ _ _ _
   | exact ih2 _ _ _ _ _ _ _
   | exact LeO.none _
   | refine LeO.ite ?_ ?_
   | refine LeO.bind ?_ (fun _ => ?_)
  ·
   intro y0 y1 y2 y3 y4 y5 y6
   unfold shuttlecockref08_Same.l0
   repeat' first
   | (with_reducible exact ih0 _ _ _ _ _ _ _)
   | (with_reducible exact ih1 _ _ _ _ _ _ _)
   | (with_reducible exact ih2 _ _ _ _ _ _ _)
   | (with_reducible exact LeO.refl _)
   | (with_reducible exact LeO.none _)
   | (with_reducible refine LeO.ite ?_ ?_)
   | (with_reducible refine LeO.bind ?_ (fun _ => ?_))
   | exact ih0 _ _ _ _ _ _ _
   | exact ih1 _ _ _ _ _ _ _
   | exact ih2 _ _ _ _ _ _ _
   | exact LeO.none _
   | refine LeO.ite ?_ ?_
   | refine LeO.bind ?_ (fun _ => ?_)
  ·
   intro y0 y1 y2 y3 y4 y5 y6
   unfold shuttlecockref08_Same.l1
   repeat' first
   | (with_reducible exact ih0 _ _ _ _ _ _ _)
   | (with_reducible exact ih1 _ _ _ _ _ _ _)
   | (with_reducible exact ih2 _ _ _ _ _ _ _)
   | (with_reducible exact LeO.refl _)
   | (with_reducible exact LeO.none _)
   | (with_reducible refine LeO.ite ?_ ?_)
   | (with_reducible refine LeO.bind ?_ (fun _ => ?_))
   | exact ih0 _ _ _ _ _ _ _
   | exact ih1 _ _ _ _ _ _ _
   | exact ih2 _ _ _ _ _ _ _
   | exact LeO.none _
   | refine LeO.ite ?_ ?_
   | refine LeO.bind ?_ (fun _ => ?_)
theorem shuttlecockref08_Same.mono : ∀ a0 a1 a2 a3 a4 a5 k, LeO (shuttlecockref08_Same.f k a0 a1 a2 a3 a4 a5) (shuttlecockref08_Same.f (k + 1) a0 a1 a2 a3 a4 a5) := by
 intro a0 a1 a2 a3 a4 a5 k
 obtain ⟨ih0, ih1, ih2⟩ := shuttlecockref08_Same.mono_l k
 unfold shuttlecockref08_Same.f
 repeat' first
   | (with_reducible exact ih0 _ _ _ _ _ _ _)
   | (with_reducible exact ih1 _ _ _ _ _ _ _)
   | (with_reducible exact ih2 _ _ _ _ _ _ _)
   | (with_reducible exact LeO.refl _)
   | (with_reducible exact LeO.none _)
   | (with_reducible refine LeO.ite ?_ ?_)
   | (with_reducible refine LeO.bind ?_ (fun _ => ?_))
   | exact ih0 _ _ _ _ _ _ _
   | exact ih1 _ _ _ _ _ _ _
   | exact ih2 _ _ _ _ _ _ _
   | exact LeO.none _
   | refine LeO.ite ?_ ?_
   | refine LeO.bind ?_ (fun _ => ?_)
set_option maxHeartbeats 8000000 in
set_option maxRecDepth 100000 in
theorem shuttlecockref08_Same.calls (k : Nat) (a0_0 : Int) (A0_1 : Option Addr) (c0_1 : Nat) (l0_1 : List (S46)) (A0_2 : Option Addr) (c0_2 : Nat) (l0_2 : List (S36)) (a1_0 : Int) (A1_1 : Option Addr) (c1_1 : Nat) (l1_1 : List (S46)) (A1_2 : Option Addr) (c1_2 : Nat) (l1_2 : List (S36)) (r : Bool) (w : World) (hr0_1 : Kd.C k46 w A0_1 l0_1.length l0_1) (hc0_1 : l0_1.length ≤ c0_1) (hr0_2 : Kd.C k36 w A0_2 l0_2.length l0_2) (hc0_2 : l0_2.length ≤ c0_2) (hr1_1 : Kd.C k46 w A1_1 l1_1.length l1_1) (hc1_1 : l1_1.length ≤ c1_1) (hr1_2 : Kd.C k36 w A1_2 l1_2.length l1_2) (hc1_2 : l1_2.length ≤ c1_2) (h : shuttlecockref08_Same.f k a0_0 l0_1 l0_2 a1_0 l1_1 l1_2 = some r) :
  Calls Try.prog 16 #[.agg #[.int .i64 a0_0, .slice A0_1 l0_1.length c0_1, .slice A0_2 l0_2.length c0_2], .agg #[.int .i64 a1_0, .slice A1_1 l1_1.length c1_1, .slice A1_2 l1_2.length c1_2]] w fun e w' => e = .returned (.bool r) ∧ Below w.heap.size w w' := by
 have hu25 := Try.underlying25
 have hu46 := Try.underlying46
 have hu36 := Try.underlying36
 have HR0_1 := Am hr0_1
 have HC0_1 := Am hc0_1
 clear hr0_1 hc0_1
 have HR0_2 := Am hr0_2
 have HC0_2 := Am hc0_2
 clear hr0_2 hc0_2
 have HR1_1 := Am hr1_1
 have HC1_1 := Am hc1_1
 clear hr1_1 hc1_1
 have HR1_2 := Am hr1_2
 have HC1_2 := Am hc1_2
 clear hr1_2 hc1_2
 have HB := Am (Below.refl w.heap.size w)
 have H : (if a0_0 = a1_0 then (if (l0_1.length : Int) = (l1_1.length : Int) then (shuttlecockref08_Same.j0 k ((l0_2.length : Int) != (l1_2.length : Int)) a0_0 l0_1 l0_2 a1_0 l1_1 l1_2) else (shuttlecockref08_Same.j0 k true a0_0 l0_1 l0_2 a1_0 l1_1 l1_2)) else (shuttlecockref08_Same.j0 k true a0_0 l0_1 l0_2 a1_0 l1_1 l1_2)) = some r := h
 clear h
 have HC3 := Am H
 clear H
 go_enter Try.func16, Try.ntmps16
 go_upto_region 1 with (first | ((with_reducible refine gate_dst (N := 2) rfl ?_); (try (refine gate_guard (by rfl) ?_; dsimp only)); refine box_event ?hg (N := 2) ?hd (cs := #[.int .i64 a0_0, .slice A0_1 l0_1.length c0_1, .slice A0_2 l0_2.length c0_2]) (t := 25) ?hr ?_; (case hd => rfl); (case hg => rfl); (case hr => first | (go_simp; done) | (go_simp; rfl)); intro gb191 hg w4 hbox hb; have n0_ := Am (below_step (by repeat (first | (with_reducible first | exact HB.out | apply bl | apply pN | apply b1) | exact HB.out | exact HBo.out)) hb); have n1_ := Am (hbox); have n2_ := Am ((by rw [hg]; exact (below_size (by repeat (first | (with_reducible first | exact HB.out | apply bl | apply pN | apply b1) | exact HB.out | exact HBo.out))) : w.heap.size ≤ gb191)); have n3_ := Am ((by rw [hg]; exact (below_size (by repeat (first | (with_reducible first | exact HB.out | apply bl | apply pN | apply b1) | exact HB.out | exact HBo.out))) : w.heap.size ≤ gb191)); clear HB; have HB := n0_; have BK191 := n1_; have GW191 := n2_; have GE191 := n3_; clear n0_ n1_ n2_ n3_; clear hb hbox hg) | ((with_reducible refine gate_dst (N := 3) rfl ?_); (try (refine gate_guard (by rfl) ?_; dsimp only)); refine box_event ?hg (N := 3) ?hd (cs := #[.int .i64 a1_0, .slice A1_1 l1_1.length c1_1, .slice A1_2 l1_2.length c1_2]) (t := 25) ?hr ?_; (case hd => rfl); (case hg => rfl); (case hr => first | (go_simp; done) | (go_simp; rfl)); intro gb192 hg w5 hbox hb; have n0_ := Am (blk_below (g := gb191) (o := .cells #[.int .i64 a0_0, .slice A0_1 l0_1.length c0_1, .slice A0_2 l0_2.length c0_2] 25 (0, 0)) (by (with_reducible repeat (first | refine bn ?_ _ | refine bd ?_ | refine ba ?_ _)); exact BK191.out) hb); have n1_ := Am (below_step (by repeat (first | (with_reducible first | exact HB.out | apply bl | apply pN | apply b1 | refine bs ?_ GE191.out) | exact HB.out | exact HBo.out)) hb); have n2_ := Am (hbox); have n3_ := Am ((by rw [hg]; exact (below_size (by repeat (first | (with_reducible first | exact HB.out | apply bl | apply pN | apply b1 | refine bs ?_ GE191.out) | exact HB.out | exact HBo.out))) : w.heap.size ≤ gb192)); have n4_ := Am ((by rw [hg]; exact (below_size (by repeat (first | (with_reducible first | exact HB.out | apply bl | apply pN | apply b1 | refine bs ?_ GE191.out) | exact HB.out | exact HBo.out))) : w.heap.size ≤ gb192)); have n5_ := Am ((by rw [hg]; exact Nat.ne_of_lt (blk_lt (g := gb191) (o := .cells #[.int .i64 a0_0, .slice A0_1 l0_1.length c0_1, .slice A0_2 l0_2.length c0_2] 25 (0, 0)) (by (with_reducible repeat (first | refine bn ?_ _ | refine bd ?_ | refine ba ?_ _)); exact BK191.out)) : gb191 ≠ gb192)); have n6_ := Am ((by rw [hg]; exact Nat.ne_of_gt (blk_lt (g := gb191) (o := .cells #[.int .i64 a0_0, .slice A0_1 l0_1.length c0_1, .slice A0_2 l0_2.length c0_2] 25 (0, 0)) (by (with_reducible repeat (first | refine bn ?_ _ | refine bd ?_ | refine ba ?_ _)); exact BK191.out)) : gb192 ≠ gb191)); clear BK191; clear HB; have BK191 := n0_; have HB := n1_; have BK192 := n2_; have GW192 := n3_; have GE192 := n4_; have NB191_192 := n5_; have NB192_191 := n6_; clear n0_ n1_ n2_ n3_ n4_ n5_ n6_; clear hb hbox hg))
 repeat (go_quiet (first | ((with_reducible refine gate_dst (N := 2) rfl ?_); (try (refine gate_guard (by rfl) ?_; dsimp only)); refine box_event ?hg (N := 2) ?hd (cs := #[.int .i64 a0_0, .slice A0_1 l0_1.length c0_1, .slice A0_2 l0_2.length c0_2]) (t := 25) ?hr ?_; (case hd => rfl); (case hg => rfl); (case hr => first | (go_simp; done) | (go_simp; rfl)); intro gb191 hg w4 hbox hb; have n0_ := Am (below_step (by repeat (first | (with_reducible first | exact HB.out | apply bl | apply pN | apply b1) | exact HB.out | exact HBo.out)) hb); have n1_ := Am (hbox); have n2_ := Am ((by rw [hg]; exact (below_size (by repeat (first | (with_reducible first | exact HB.out | apply bl | apply pN | apply b1) | exact HB.out | exact HBo.out))) : w.heap.size ≤ gb191)); have n3_ := Am ((by rw [hg]; exact (below_size (by repeat (first | (with_reducible first | exact HB.out | apply bl | apply pN | apply b1) | exact HB.out | exact HBo.out))) : w.heap.size ≤ gb191)); clear HB; have HB := n0_; have BK191 := n1_; have GW191 := n2_; have GE191 := n3_; clear n0_ n1_ n2_ n3_; clear hb hbox hg) | ((with_reducible refine gate_dst (N := 3) rfl ?_); (try (refine gate_guard (by rfl) ?_; dsimp only)); refine box_event ?hg (N := 3) ?hd (cs := #[.int .i64 a1_0, .slice A1_1 l1_1.length c1_1, .slice A1_2 l1_2.length c1_2]) (t := 25) ?hr ?_; (case hd => rfl); (case hg => rfl); (case hr => first | (go_simp; done) | (go_simp; rfl)); intro gb192 hg w5 hbox hb; have n0_ := Am (blk_below (g := gb191) (o := .cells #[.int .i64 a0_0, .slice A0_1 l0_1.length c0_1, .slice A0_2 l0_2.length c0_2] 25 (0, 0)) (by (with_reducible repeat (first | refine bn ?_ _ | refine bd ?_ | refine ba ?_ _)); exact BK191.out) hb); have n1_ := Am (below_step (by repeat (first | (with_reducible first | exact HB.out | apply bl | apply pN | apply b1 | refine bs ?_ GE191.out) | exact HB.out | exact HBo.out)) hb); have n2_ := Am (hbox); have n3_ := Am ((by rw [hg]; exact (below_size (by repeat (first | (with_reducible first | exact HB.out | apply bl | apply pN | apply b1 | refine bs ?_ GE191.out) | exact HB.out | exact HBo.out))) : w.heap.size ≤ gb192)); have n4_ := Am ((by rw [hg]; exact (below_size (by repeat (first | (with_reducible first | exact HB.out | apply bl | apply pN | apply b1 | refine bs ?_ GE191.out) | exact HB.out | exact HBo.out))) : w.heap.size ≤ gb192)); have n5_ := Am ((by rw [hg]; exact Nat.ne_of_lt (blk_lt (g := gb191) (o := .cells #[.int .i64 a0_0, .slice A0_1 l0_1.length c0_1, .slice A0_2 l0_2.length c0_2] 25 (0, 0)) (by (with_reducible repeat (first | refine bn ?_ _ | refine bd ?_ | refine ba ?_ _)); exact BK191.out)) : gb191 ≠ gb192)); have n6_ := Am ((by rw [hg]; exact Nat.ne_of_gt (blk_lt (g := gb191) (o := .cells #[.int .i64 a0_0, .slice A0_1 l0_1.length c0_1, .slice A0_2 l0_2.length c0_2] 25 (0, 0)) (by (with_reducible repeat (first | refine bn ?_ _ | refine bd ?_ | refine ba ?_ _)); exact BK191.out)) : gb192 ≠ gb191)); clear BK191; clear HB; have BK191 := n0_; have HB := n1_; have BK192 := n2_; have GW192 := n3_; have GE192 := n4_; have NB191_192 := n5_; have NB192_191 := n6_; clear n0_ n1_ n2_ n3_ n4_ n5_ n6_; clear hb hbox hg)); go_upto_region 1 with (first | ((with_reducible refine gate_dst (N := 2) rfl ?_); (try (refine gate_guard (by rfl) ?_; dsimp only)); refine box_event ?hg (N := 2) ?hd (cs := #[.int .i64 a0_0, .slice A0_1 l0_1.length c0_1, .slice A0_2 l0_2.length c0_2]) (t := 25) ?hr ?_; (case hd => rfl); (case hg => rfl); (case hr => first | (go_simp; done) | (go_simp; rfl)); intro gb191 hg w4 hbox hb; have n0_ := Am (below_step (by repeat (first | (with_reducible first | exact HB.out | apply bl | apply pN | apply b1) | exact HB.out | exact HBo.out)) hb); have n1_ := Am (hbox); have n2_ := Am ((by rw [hg]; exact (below_size (by repeat (first | (with_reducible first | exact HB.out | apply bl | apply pN | apply b1) | exact HB.out | exact HBo.out))) : w.heap.size ≤ gb191)); have n3_ := Am ((by rw [hg]; exact (below_size (by repeat (first | (with_reducible first | exact HB.out | apply bl | apply pN | apply b1) | exact HB.out | exact HBo.out))) : w.heap.size ≤ gb191)); clear HB; have HB := n0_; have BK191 := n1_; have GW191 := n2_; have GE191 := n3_; clear n0_ n1_ n2_ n3_; clear hb hbox hg) | ((with_reducible refine gate_dst (N := 3) rfl ?_); (try (refine gate_guard (by rfl) ?_; dsimp only)); refine box_event ?hg (N := 3) ?hd (cs := #[.int .i64 a1_0, .slice A1_1 l1_1.length c1_1, .slice A1_2 l1_2.length c1_2]) (t := 25) ?hr ?_; (case hd => rfl); (case hg => rfl); (case hr => first | (go_simp; done) | (go_simp; rfl)); intro gb192 hg w5 hbox hb; have n0_ := Am (blk_below (g := gb191) (o := .cells #[.int .i64 a0_0, .slice A0_1 l0_1.length c0_1, .slice A0_2 l0_2.length c0_2] 25 (0, 0)) (by (with_reducible repeat (first | refine bn ?_ _ | refine bd ?_ | refine ba ?_ _)); exact BK191.out) hb); have n1_ := Am (below_step (by repeat (first | (with_reducible first | exact HB.out | apply bl | apply pN | apply b1 | refine bs ?_ GE191.out) | exact HB.out | exact HBo.out)) hb); have n2_ := Am (hbox); have n3_ := Am ((by rw [hg]; exact (below_size (by repeat (first | (with_reducible first | exact HB.out | apply bl | apply pN | apply b1 | refine bs ?_ GE191.out) | exact HB.out | exact HBo.out))) : w.heap.size ≤ gb192)); have n4_ := Am ((by rw [hg]; exact (below_size (by repeat (first | (with_reducible first | exact HB.out | apply bl | apply pN | apply b1 | refine bs ?_ GE191.out) | exact HB.out | exact HBo.out))) : w.heap.size ≤ gb192)); have n5_ := Am ((by rw [hg]; exact Nat.ne_of_lt (blk_lt (g := gb191) (o := .cells #[.int .i64 a0_0, .slice A0_1 l0_1.length c0_1, .slice A0_2 l0_2.length c0_2] 25 (0, 0)) (by (with_reducible repeat (first | refine bn ?_ _ | refine bd ?_ | refine ba ?_ _)); exact BK191.out)) : gb191 ≠ gb192)); have n6_ := Am ((by rw [hg]; exact Nat.ne_of_gt (blk_lt (g := gb191) (o := .cells #[.int .i64 a0_0, .slice A0_1 l0_1.length c0_1, .slice A0_2 l0_2.length c0_2] 25 (0, 0)) (by (with_reducible repeat (first | refine bn ?_ _ | refine bd ?_ | refine ba ?_ _)); exact BK191.out)) : gb192 ≠ gb191)); clear BK191; clear HB; have BK191 := n0_; have HB := n1_; have BK192 := n2_; have GW192 := n3_; have GE192 := n4_; have NB191_192 := n5_; have NB192_191 := n6_; clear n0_ n1_ n2_ n3_ n4_ n5_ n6_; clear hb hbox hg)))
 (try simp only [Act.put, sI, sZ, sS])
 go_cut [29] (fun v29 wc => ∃ (kq : Nat) (x29_2 : Bool), v29 = .bool x29_2 ∧ Aside0 (shuttlecockref08_Same.j0 kq x29_2 a0_0 l0_1 l0_2 a1_0 l1_1 l1_2 = some r) ∧ Aside0 (kq ≤ k) ∧ Aside0 (wc.heap[gb191]? = some (.cells #[.int .i64 a0_0, (.slice A0_1 l0_1.length c0_1), (.slice A0_2 l0_2.length c0_2)] 25 (0, 0))) ∧ Aside0 (wc.heap[gb192]? = some (.cells #[.int .i64 a1_0, (.slice A1_1 l1_1.length c1_1), (.slice A1_2 l1_2.length c1_2)] 25 (0, 0))) ∧ Aside0 (Below w.heap.size w wc))
 case first =>
  have H := HC3.out
  clear HC3
  by_cases c6 : a0_0 = a1_0
  ·
   rw [if_pos c6] at H
   have c6b0 : (a0_0 == a1_0) = true := beq_iff_eq.mpr c6
   have c6b1 : (a0_0 != a1_0) = false := bne_eq_false_iff_eq.mpr c6
   clear c6
   (first | rw [c6b0] | (simp only [i64_w, i32_w]; rw [c6b0]) | skip)
   by_cases c7 : (l0_1.length : Int) = (l1_1.length : Int)
   ·
    rw [if_pos c7] at H
    have c7b0 : ((l0_1.length : Int) == (l1_1.length : Int)) = true := beq_iff_eq.mpr c7
    have c7b1 : ((l0_1.length : Int) != (l1_1.length : Int)) = false := bne_eq_false_iff_eq.mpr c7
    have c7b2 : (l0_1.length == l1_1.length) = true := by first | simpa using c7 | (simp at c7 ⊢; omega)
    clear c7
    have H' := Am H
    clear H
    have hnb8 := NB191_192.out
    have hnc8 := NB192_191.out
    have hcz9_0 : w5.cell? ⟨gb191, 0, none⟩ = some (.int .i64 a0_0) := (bc BK191.out 0).trans rfl
    have hcz9_1 : w5.cell? ⟨gb191, 1, none⟩ = some (.slice A0_1 l0_1.length c0_1) := (bc BK191.out 1).trans rfl
    have hcz9_2 : w5.cell? ⟨gb191, 2, none⟩ = some (.slice A0_2 l0_2.length c0_2) := (bc BK191.out 2).trans rfl
    have hfz9_0 := bf BK191.out 0
    have hfz9_1 := bf BK191.out 1
    have hfz9_2 := bf BK191.out 2
    have hcz10_0 : w5.cell? ⟨gb192, 0, none⟩ = some (.int .i64 a1_0) := (bc BK192.out 0).trans rfl
    have hcz10_1 : w5.cell? ⟨gb192, 1, none⟩ = some (.slice A1_1 l1_1.length c1_1) := (bc BK192.out 1).trans rfl
    have hcz10_2 : w5.cell? ⟨gb192, 2, none⟩ = some (.slice A1_2 l1_2.length c1_2) := (bc BK192.out 2).trans rfl
    have hfz10_0 := bf BK192.out 0
    have hfz10_1 := bf BK192.out 1
    have hfz10_2 := bf BK192.out 2
    go_wp2
    repeat (go_quiet (fail); try go_wp2)
    go_meet
    case rel => exact ⟨_, (((l0_2.length : Int) != (l1_2.length : Int))), (by first | rfl | (simp; done) | (simp [*]; done)), H', ⟨by first | omega | exact Nat.le_refl _⟩, ⟨by (with_reducible repeat (first | refine bn ?_ _ | refine bd ?_ | refine ba ?_ _)); exact BK191.out⟩, ⟨by (with_reducible repeat (first | refine bn ?_ _ | refine bd ?_ | refine ba ?_ _)); exact BK192.out⟩, ⟨by repeat (first | (with_reducible first | exact HB.out | apply bl | apply pN | apply b1 | refine bs ?_ GE191.out | refine bs ?_ GE192.out) | exact HB.out | exact HBo.out)⟩⟩
   ·
    rw [if_neg c7] at H
    have c7b0 : ((l0_1.length : Int) == (l1_1.length : Int)) = false := beq_eq_false_iff_ne.mpr c7
    have c7b1 : ((l0_1.length : Int) != (l1_1.length : Int)) = true := bne_iff_ne.mpr c7
    have c7b2 : (l0_1.length == l1_1.length) = false := by first | simpa using c7 | (simp at c7 ⊢; omega)
    have H' := Am H
    clear H
    have hnb11 := NB191_192.out
    have hnc11 := NB192_191.out
    have hcz12_0 : w5.cell? ⟨gb191, 0, none⟩ = some (.int .i64 a0_0) := (bc BK191.out 0).trans rfl
    have hcz12_1 : w5.cell? ⟨gb191, 1, none⟩ = some (.slice A0_1 l0_1.length c0_1) := (bc BK191.out 1).trans rfl
    have hcz12_2 : w5.cell? ⟨gb191, 2, none⟩ = some (.slice A0_2 l0_2.length c0_2) := (bc BK191.out 2).trans rfl
    have hfz12_0 := bf BK191.out 0
    have hfz12_1 := bf BK191.out 1
    have hfz12_2 := bf BK191.out 2
    have hcz13_0 : w5.cell? ⟨gb192, 0, none⟩ = some (.int .i64 a1_0) := (bc BK192.out 0).trans rfl
    have hcz13_1 : w5.cell? ⟨gb192, 1, none⟩ = some (.slice A1_1 l1_1.length c1_1) := (bc BK192.out 1).trans rfl
    have hcz13_2 : w5.cell? ⟨gb192, 2, none⟩ = some (.slice A1_2 l1_2.length c1_2) := (bc BK192.out 2).trans rfl
    have hfz13_0 := bf BK192.out 0
    have hfz13_1 := bf BK192.out 1
    have hfz13_2 := bf BK192.out 2
    go_wp2
    repeat (go_quiet (fail); try go_wp2)
    go_meet
    case rel => exact ⟨_, (true), (by first | rfl | (simp; done) | (simp [*]; done)), H', ⟨by first | omega | exact Nat.le_refl _⟩, ⟨by (with_reducible repeat (first | refine bn ?_ _ | refine bd ?_ | refine ba ?_ _)); exact BK191.out⟩, ⟨by (with_reducible repeat (first | refine bn ?_ _ | refine bd ?_ | refine ba ?_ _)); exact BK192.out⟩, ⟨by repeat (first | (with_reducible first | exact HB.out | apply bl | apply pN | apply b1 | refine bs ?_ GE191.out | refine bs ?_ GE192.out) | exact HB.out | exact HBo.out)⟩⟩
  ·
   rw [if_neg c6] at H
   have c6b0 : (a0_0 == a1_0) = false := beq_eq_false_iff_ne.mpr c6
   have c6b1 : (a0_0 != a1_0) = true := bne_iff_ne.mpr c6
   (first | rw [c6b0] | (simp only [i64_w, i32_w]; rw [c6b0]) | skip)
   have H' := Am H
   clear H
   have hnb14 := NB191_192.out
   have hnc14 := NB192_191.out
   have hcz15_0 : w5.cell? ⟨gb191, 0, none⟩ = some (.int .i64 a0_0) := (bc BK191.out 0).trans rfl
   have hcz15_1 : w5.cell? ⟨gb191, 1, none⟩ = some (.slice A0_1 l0_1.length c0_1) := (bc BK191.out 1).trans rfl
   have hcz15_2 : w5.cell? ⟨gb191, 2, none⟩ = some (.slice A0_2 l0_2.length c0_2) := (bc BK191.out 2).trans rfl
   have hfz15_0 := bf BK191.out 0
   have hfz15_1 := bf BK191.out 1
   have hfz15_2 := bf BK191.out 2
   have hcz16_0 : w5.cell? ⟨gb192, 0, none⟩ = some (.int .i64 a1_0) := (bc BK192.out 0).trans rfl
   have hcz16_1 : w5.cell? ⟨gb192, 1, none⟩ = some (.slice A1_1 l1_1.length c1_1) := (bc BK192.out 1).trans rfl
   have hcz16_2 : w5.cell? ⟨gb192, 2, none⟩ = some (.slice A1_2 l1_2.length c1_2) := (bc BK192.out 2).trans rfl
   have hfz16_0 := bf BK192.out 0
   have hfz16_1 := bf BK192.out 1
   have hfz16_2 := bf BK192.out 2
   go_wp2
   repeat (go_quiet (fail); try go_wp2)
   go_meet
   case rel => exact ⟨_, (true), (by first | rfl | (simp; done) | (simp [*]; done)), H', ⟨by first | omega | exact Nat.le_refl _⟩, ⟨by (with_reducible repeat (first | refine bn ?_ _ | refine bd ?_ | refine ba ?_ _)); exact BK191.out⟩, ⟨by (with_reducible repeat (first | refine bn ?_ _ | refine bd ?_ | refine ba ?_ _)); exact BK192.out⟩, ⟨by repeat (first | (with_reducible first | exact HB.out | apply bl | apply pN | apply b1 | refine bs ?_ GE191.out | refine bs ?_ GE192.out) | exact HB.out | exact HBo.out)⟩⟩
 case rest =>
  clear HC3
  try clear c1
  try clear p2
  try clear c6
  try clear c6b0
  try clear c6b1
  try clear c7
  try clear c7b0
  try clear c7b1
  try clear c7b2
  try clear c8
  try clear c11
  try clear c14
  try clear c16
  try clear hcz10_0
  try clear hcz10_1
  try clear hcz10_2
  try clear hcz12_0
  try clear hcz12_1
  try clear hcz12_2
  try clear hcz13_0
  try clear hcz13_1
  try clear hcz13_2
  try clear hcz15_0
  try clear hcz15_1
  try clear hcz15_2
  try clear hcz16_0
  try clear hcz16_1
  try clear hcz16_2
  try clear hcz9_0
  try clear hcz9_1
  try clear hcz9_2
  try clear hfz10_0
  try clear hfz10_1
  try clear hfz10_2
  try clear hfz12_0
  try clear hfz12_1
  try clear hfz12_2
  try clear hfz13_0
  try clear hfz13_1
  try clear hfz13_2
  try clear hfz15_0
  try clear hfz15_1
  try clear hfz15_2
  try clear hfz16_0
  try clear hfz16_1
  try clear hfz16_2
  try clear hfz9_0
  try clear hfz9_1
  try clear hfz9_2
  obtain ⟨kq, x29_2, rfl, HA, HJ2, BK191, BK192, HB⟩ := hcut
  cases kq with
  | zero => exact absurd HA.out (by simp [shuttlecockref08_Same.j0])
  | succ kj2 =>
   have H := HA.out
   clear HA
   simp only [shuttlecockref08_Same.j0] at H
   by_cases c17 : x29_2 = true
   ·
    subst c17
    have H1 : (some false) = some r := by rw [if_pos rfl] at H; exact H
    clear H
    have H := H1
    clear H1
    obtain rfl := Option.some.inj H
    go_wp2
    repeat (go_quiet (fail); try go_wp2)
    go_ret
    exact ⟨by first | rfl | (simp [errW_none, errW_some] <;> rfl) | (simp [*, errW_none, errW_some] <;> rfl) | (simp [Aid.ne_nil, Aid.eq_nil, errW_none, errW_some]; done), by repeat (first | (with_reducible first | exact HB.out | apply bl | apply pN | apply b1 | refine bs ?_ GE191.out | refine bs ?_ GE192.out) | exact HB.out | exact HBo.out)⟩
   ·
    replace c17 := Bool.eq_false_iff.mpr c17
    subst c17
    have H1 : (shuttlecockref08_Same.l0 kj2 0 a0_0 l0_1 l0_2 a1_0 l1_1 l1_2) = some r := by rw [if_neg (show ¬ (false = true) by decide)] at H; exact H
    clear H
    have H := H1
    clear H1
    have H' := Am H
    clear H
    go_wp2
    repeat (go_quiet (fail); try go_wp2)
    go_loopg [5] kj2 (fun kq v5 w' => ∃ (x5_2 : Int), v5 = .int .i64 x5_2 ∧ Aside0 (shuttlecockref08_Same.l0 kq x5_2 a0_0 l0_1 l0_2 a1_0 l1_1 l1_2 = some r) ∧ Aside0 (kq ≤ kj2) ∧ Aside0 (w'.heap[gb191]? = some (.cells #[.int .i64 a0_0, (.slice A0_1 l0_1.length c0_1), (.slice A0_2 l0_2.length c0_2)] 25 (0, 0))) ∧ Aside0 (w'.heap[gb192]? = some (.cells #[.int .i64 a1_0, (.slice A1_1 l1_1.length c1_1), (.slice A1_2 l1_2.length c1_2)] 25 (0, 0))) ∧ Aside0 (Below w.heap.size w w'))
    case atStart => exact ⟨(0), (by first | rfl | (simp; done) | (simp [*]; done)), H', ⟨Nat.le_refl _⟩, ⟨by (with_reducible repeat (first | refine bn ?_ _ | refine bd ?_ | refine ba ?_ _)); exact BK191.out⟩, ⟨by (with_reducible repeat (first | refine bn ?_ _ | refine bd ?_ | refine ba ?_ _)); exact BK192.out⟩, ⟨by repeat (first | (with_reducible first | exact HB.out | apply bl | apply pN | apply b1 | refine bs ?_ GE191.out | refine bs ?_ GE192.out) | exact HB.out | exact HBo.out)⟩⟩
    case round =>
     clear H'
     try clear c1
     try clear p2
     try clear c6
     try clear c6b0
     try clear c6b1
     try clear c7
     try clear c7b0
     try clear c7b1
     try clear c7b2
     try clear c8
     try clear c11
     try clear c14
     try clear c16
     try clear c17
     try clear hcz10_0
     try clear hcz10_1
     try clear hcz10_2
     try clear hcz12_0
     try clear hcz12_1
     try clear hcz12_2
     try clear hcz13_0
     try clear hcz13_1
     try clear hcz13_2
     try clear hcz15_0
     try clear hcz15_1
     try clear hcz15_2
     try clear hcz16_0
     try clear hcz16_1
     try clear hcz16_2
     try clear hcz9_0
     try clear hcz9_1
     try clear hcz9_2
     try clear hfz10_0
     try clear hfz10_1
     try clear hfz10_2
     try clear hfz12_0
     try clear hfz12_1
     try clear hfz12_2
     try clear hfz13_0
     try clear hfz13_1
     try clear hfz13_2
     try clear hfz15_0
     try clear hfz15_1
     try clear hfz15_2
     try clear hfz16_0
     try clear hfz16_1
     try clear hfz16_2
     try clear hfz9_0
     try clear hfz9_1
     try clear hfz9_2
     try clear p2
     obtain ⟨x5_2, rfl, HA, HK2, BK191, BK192, HB⟩ := hrel
     cases gk with
     | zero => exact absurd HA.out (by simp [shuttlecockref08_Same.l0])
     | succ k2 =>
      have H := HA.out
      clear HA
      simp only [shuttlecockref08_Same.l0] at H
      by_cases c18 : x5_2 < (l0_1.length : Int)
      ·
       rw [if_pos c18] at H
       have c18b0 : decide (x5_2 < (l0_1.length : Int)) = true := decide_eq_true c18
       clear c18
       by_cases c19 : 0 ≤ x5_2
       ·
        rw [if_pos c19] at H
        have c19b0 : decide (0 ≤ x5_2) = true := decide_eq_true c19
        clear c19
        by_cases c20 : x5_2 < (l1_1.length : Int)
        ·
         rw [if_pos c20] at H
         have c20b0 : decide (x5_2 < (l1_1.length : Int)) = true := decide_eq_true c20
         clear c20
         by_cases c21 : (!(((rd_T46 l0_1 x5_2).f0) == ((rd_T46 l1_1 x5_2).f0)) || (!(((rd_T46 l0_1 x5_2).f1) == ((rd_T46 l1_1 x5_2).f1)))) = true
         ·
          rw [if_pos c21] at H
          have c21b0 : (!(((rd_T46 l0_1 x5_2).f0) == ((rd_T46 l1_1 x5_2).f0)) || (!(((rd_T46 l0_1 x5_2).f1) == ((rd_T46 l1_1 x5_2).f1)))) = true := c21
          clear c21
          obtain rfl := Option.some.inj H
          have hnb22 := NB191_192.out
          have hnc22 := NB192_191.out
          have hcz23_0 : wr.cell? ⟨gb191, 0, none⟩ = some (.int .i64 a0_0) := (bc BK191.out 0).trans rfl
          have hcz23_1 : wr.cell? ⟨gb191, 1, none⟩ = some (.slice A0_1 l0_1.length c0_1) := (bc BK191.out 1).trans rfl
          have hcz23_2 : wr.cell? ⟨gb191, 2, none⟩ = some (.slice A0_2 l0_2.length c0_2) := (bc BK191.out 2).trans rfl
          have hfz23_0 := bf BK191.out 0
          have hfz23_1 := bf BK191.out 1
          have hfz23_2 := bf BK191.out 2
          have p193 : 0 ≤ (x5_2 : Int) := of_decide_eq_true (by first | (with_reducible assumption) | assumption)
          have q193 : x5_2 < (l0_1.length : Int) := of_decide_eq_true (by first | (with_reducible assumption) | assumption)
          obtain ⟨ad193, e193, hx193_0, hx193_1⟩ := at_T46 HR0_1.out x5_2 p193 q193
          cases e193
          replace hx193_0 := (HB.out.cell (World.block_lt_of_cell? w _ hx193_0)).trans hx193_0
          replace hx193_1 := (HB.out.cell (World.block_lt_of_cell? w _ hx193_1)).trans hx193_1
          replace p193 := eq_true p193
          replace q193 := eq_true q193
          have hcz24_0 : wr.cell? ⟨gb192, 0, none⟩ = some (.int .i64 a1_0) := (bc BK192.out 0).trans rfl
          have hcz24_1 : wr.cell? ⟨gb192, 1, none⟩ = some (.slice A1_1 l1_1.length c1_1) := (bc BK192.out 1).trans rfl
          have hcz24_2 : wr.cell? ⟨gb192, 2, none⟩ = some (.slice A1_2 l1_2.length c1_2) := (bc BK192.out 2).trans rfl
          have hfz24_0 := bf BK192.out 0
          have hfz24_1 := bf BK192.out 1
          have hfz24_2 := bf BK192.out 2
          have p194 : 0 ≤ (x5_2 : Int) := of_decide_eq_true (by first | (with_reducible assumption) | assumption)
          have q194 : x5_2 < (l1_1.length : Int) := of_decide_eq_true (by first | (with_reducible assumption) | assumption)
          obtain ⟨ad194, e194, hx194_0, hx194_1⟩ := at_T46 HR1_1.out x5_2 p194 q194
          cases e194
          replace hx194_0 := (HB.out.cell (World.block_lt_of_cell? w _ hx194_0)).trans hx194_0
          replace hx194_1 := (HB.out.cell (World.block_lt_of_cell? w _ hx194_1)).trans hx194_1
          replace p194 := eq_true p194
          replace q194 := eq_true q194
          go_wp2
          repeat (go_quiet (fail); try go_wp2)
          go_ret
          exact ⟨by first | rfl | (simp [errW_none, errW_some] <;> rfl) | (simp [*, errW_none, errW_some] <;> rfl) | (simp [Aid.ne_nil, Aid.eq_nil, errW_none, errW_some]; done), by repeat (first | (with_reducible first | exact HB.out | apply bl | apply pN | apply b1 | refine bs ?_ GE191.out | refine bs ?_ GE192.out) | exact HB.out | exact HBo.out)⟩
         ·
          rw [if_neg c21] at H
          have c21b0 : (!(((rd_T46 l0_1 x5_2).f0) == ((rd_T46 l1_1 x5_2).f0)) || (!(((rd_T46 l0_1 x5_2).f1) == ((rd_T46 l1_1 x5_2).f1)))) = false := by simpa using c21
          clear c21
          have H' := Am H
          clear H
          have hnb25 := NB191_192.out
          have hnc25 := NB192_191.out
          have hcz26_0 : wr.cell? ⟨gb191, 0, none⟩ = some (.int .i64 a0_0) := (bc BK191.out 0).trans rfl
          have hcz26_1 : wr.cell? ⟨gb191, 1, none⟩ = some (.slice A0_1 l0_1.length c0_1) := (bc BK191.out 1).trans rfl
          have hcz26_2 : wr.cell? ⟨gb191, 2, none⟩ = some (.slice A0_2 l0_2.length c0_2) := (bc BK191.out 2).trans rfl
          have hfz26_0 := bf BK191.out 0
          have hfz26_1 := bf BK191.out 1
          have hfz26_2 := bf BK191.out 2
          have p193 : 0 ≤ (x5_2 : Int) := of_decide_eq_true (by first | (with_reducible assumption) | assumption)
          have q193 : x5_2 < (l0_1.length : Int) := of_decide_eq_true (by first | (with_reducible assumption) | assumption)
          obtain ⟨ad193, e193, hx193_0, hx193_1⟩ := at_T46 HR0_1.out x5_2 p193 q193
          cases e193
          replace hx193_0 := (HB.out.cell (World.block_lt_of_cell? w _ hx193_0)).trans hx193_0
          replace hx193_1 := (HB.out.cell (World.block_lt_of_cell? w _ hx193_1)).trans hx193_1
          replace p193 := eq_true p193
          replace q193 := eq_true q193
          have hcz27_0 : wr.cell? ⟨gb192, 0, none⟩ = some (.int .i64 a1_0) := (bc BK192.out 0).trans rfl
          have hcz27_1 : wr.cell? ⟨gb192, 1, none⟩ = some (.slice A1_1 l1_1.length c1_1) := (bc BK192.out 1).trans rfl
          have hcz27_2 : wr.cell? ⟨gb192, 2, none⟩ = some (.slice A1_2 l1_2.length c1_2) := (bc BK192.out 2).trans rfl
          have hfz27_0 := bf BK192.out 0
          have hfz27_1 := bf BK192.out 1
          have hfz27_2 := bf BK192.out 2
          have p194 : 0 ≤ (x5_2 : Int) := of_decide_eq_true (by first | (with_reducible assumption) | assumption)
          have q194 : x5_2 < (l1_1.length : Int) := of_decide_eq_true (by first | (with_reducible assumption) | assumption)
          obtain ⟨ad194, e194, hx194_0, hx194_1⟩ := at_T46 HR1_1.out x5_2 p194 q194
          cases e194
          replace hx194_0 := (HB.out.cell (World.block_lt_of_cell? w _ hx194_0)).trans hx194_0
          replace hx194_1 := (HB.out.cell (World.block_lt_of_cell? w _ hx194_1)).trans hx194_1
          replace p194 := eq_true p194
          replace q194 := eq_true q194
          go_wp2
          repeat (go_quiet (fail); try go_wp2)
          go_roundg k2
          case measure => have := HJ2.out; have := HK2.out; omega
          case rel => exact ⟨(wrap64 (x5_2 + 1)), (by first | rfl | (simp; done) | (simp [*]; done)), H', ⟨by have := HJ2.out; have := HK2.out; omega⟩, ⟨by (with_reducible repeat (first | refine bn ?_ _ | refine bd ?_ | refine ba ?_ _)); exact BK191.out⟩, ⟨by (with_reducible repeat (first | refine bn ?_ _ | refine bd ?_ | refine ba ?_ _)); exact BK192.out⟩, ⟨by repeat (first | (with_reducible first | exact HB.out | apply bl | apply pN | apply b1 | refine bs ?_ GE191.out | refine bs ?_ GE192.out) | exact HB.out | exact HBo.out)⟩⟩
        ·
         rw [if_neg c20] at H
         exact absurd H (by simp)
       ·
        rw [if_neg c19] at H
        exact absurd H (by simp)
      ·
       rw [if_neg c18] at H
       have c18b0 : decide (x5_2 < (l0_1.length : Int)) = false := decide_eq_false c18
       clear c18
       have H' := Am H
       clear H
       have hnb28 := NB191_192.out
       have hnc28 := NB192_191.out
       have hcz29_0 : wr.cell? ⟨gb191, 0, none⟩ = some (.int .i64 a0_0) := (bc BK191.out 0).trans rfl
       have hcz29_1 : wr.cell? ⟨gb191, 1, none⟩ = some (.slice A0_1 l0_1.length c0_1) := (bc BK191.out 1).trans rfl
       have hcz29_2 : wr.cell? ⟨gb191, 2, none⟩ = some (.slice A0_2 l0_2.length c0_2) := (bc BK191.out 2).trans rfl
       have hfz29_0 := bf BK191.out 0
       have hfz29_1 := bf BK191.out 1
       have hfz29_2 := bf BK191.out 2
       go_wp2
       repeat (go_quiet (fail); try go_wp2)
       go_loopg [6] k2 (fun kq v6 w' => ∃ (x6_3 : Int), v6 = .int .i64 x6_3 ∧ Aside0 (shuttlecockref08_Same.l1 kq x6_3 a0_0 l0_1 l0_2 a1_0 l1_1 l1_2 = some r) ∧ Aside0 (kq ≤ k2) ∧ Aside0 (w'.heap[gb191]? = some (.cells #[.int .i64 a0_0, (.slice A0_1 l0_1.length c0_1), (.slice A0_2 l0_2.length c0_2)] 25 (0, 0))) ∧ Aside0 (w'.heap[gb192]? = some (.cells #[.int .i64 a1_0, (.slice A1_1 l1_1.length c1_1), (.slice A1_2 l1_2.length c1_2)] 25 (0, 0))) ∧ Aside0 (Below w.heap.size w w'))
       case atStart => exact ⟨(0), (by first | rfl | (simp; done) | (simp [*]; done)), H', ⟨Nat.le_refl _⟩, ⟨by (with_reducible repeat (first | refine bn ?_ _ | refine bd ?_ | refine ba ?_ _)); exact BK191.out⟩, ⟨by (with_reducible repeat (first | refine bn ?_ _ | refine bd ?_ | refine ba ?_ _)); exact BK192.out⟩, ⟨by repeat (first | (with_reducible first | exact HB.out | apply bl | apply pN | apply b1 | refine bs ?_ GE191.out | refine bs ?_ GE192.out) | exact HB.out | exact HBo.out)⟩⟩
       case round =>
        clear H'
        try clear c1
        try clear p1
        try clear q1
        try clear hx1
        try clear c2
        try clear p2
        try clear c6
        try clear c6b0
        try clear c6b1
        try clear p6
        try clear c7
        try clear c7b0
        try clear c7b1
        try clear c7b2
        try clear c8
        try clear c11
        try clear c14
        try clear c16
        try clear c17
        try clear c18
        try clear c18b0
        try clear c19
        try clear c19b0
        try clear p19
        try clear q19
        try clear hx19
        try clear c20
        try clear c20b0
        try clear c21
        try clear c21b0
        try clear c22
        try clear c25
        try clear c28
        try clear hcz10_0
        try clear hcz10_1
        try clear hcz10_2
        try clear hcz12_0
        try clear hcz12_1
        try clear hcz12_2
        try clear hcz13_0
        try clear hcz13_1
        try clear hcz13_2
        try clear hcz15_0
        try clear hcz15_1
        try clear hcz15_2
        try clear hcz16_0
        try clear hcz16_1
        try clear hcz16_2
        try clear hcz23_0
        try clear hcz23_1
        try clear hcz23_2
        try clear hcz24_0
        try clear hcz24_1
        try clear hcz24_2
        try clear hcz26_0
        try clear hcz26_1
        try clear hcz26_2
        try clear hcz27_0
        try clear hcz27_1
        try clear hcz27_2
        try clear hcz29_0
        try clear hcz29_1
        try clear hcz29_2
        try clear hcz9_0
        try clear hcz9_1
        try clear hcz9_2
        try clear hfz10_0
        try clear hfz10_1
        try clear hfz10_2
        try clear hfz12_0
        try clear hfz12_1
        try clear hfz12_2
        try clear hfz13_0
        try clear hfz13_1
        try clear hfz13_2
        try clear hfz15_0
        try clear hfz15_1
        try clear hfz15_2
        try clear hfz16_0
        try clear hfz16_1
        try clear hfz16_2
        try clear hfz23_0
        try clear hfz23_1
        try clear hfz23_2
        try clear hfz24_0
        try clear hfz24_1
        try clear hfz24_2
        try clear hfz26_0
        try clear hfz26_1
        try clear hfz26_2
        try clear hfz27_0
        try clear hfz27_1
        try clear hfz27_2
        try clear hfz29_0
        try clear hfz29_1
        try clear hfz29_2
        try clear hfz9_0
        try clear hfz9_1
        try clear hfz9_2
        try clear hx193_0
        try clear hx193_1
        try clear hx194_0
        try clear hx194_1
        try clear p193
        try clear p194
        try clear p2
        try clear q193
        try clear q194
        obtain ⟨x6_3, rfl, HA, HK3, BK191, BK192, HB⟩ := hrel
        cases gk with
        | zero => exact absurd HA.out (by simp [shuttlecockref08_Same.l1])
        | succ k3 =>
         have H := HA.out
         clear HA
         simp only [shuttlecockref08_Same.l1] at H
         by_cases c30 : x6_3 < (l0_2.length : Int)
         ·
          rw [if_pos c30] at H
          have c30b0 : decide (x6_3 < (l0_2.length : Int)) = true := decide_eq_true c30
          clear c30
          by_cases c31 : 0 ≤ x6_3
          ·
           rw [if_pos c31] at H
           have c31b0 : decide (0 ≤ x6_3) = true := decide_eq_true c31
           clear c31
           by_cases c32 : x6_3 < (l1_2.length : Int)
           ·
            rw [if_pos c32] at H
            have c32b0 : decide (x6_3 < (l1_2.length : Int)) = true := decide_eq_true c32
            clear c32
            by_cases c33 : (!(((rd_T36 l0_2 x6_3).f0) == ((rd_T36 l1_2 x6_3).f0)) || (!(((rd_T36 l0_2 x6_3).f1) == ((rd_T36 l1_2 x6_3).f1)) || (!(((rd_T36 l0_2 x6_3).f2) == ((rd_T36 l1_2 x6_3).f2)) || (!(((rd_T36 l0_2 x6_3).f3) == ((rd_T36 l1_2 x6_3).f3)))))) = true
            ·
             rw [if_pos c33] at H
             have c33b0 : (!(((rd_T36 l0_2 x6_3).f0) == ((rd_T36 l1_2 x6_3).f0)) || (!(((rd_T36 l0_2 x6_3).f1) == ((rd_T36 l1_2 x6_3).f1)) || (!(((rd_T36 l0_2 x6_3).f2) == ((rd_T36 l1_2 x6_3).f2)) || (!(((rd_T36 l0_2 x6_3).f3) == ((rd_T36 l1_2 x6_3).f3)))))) = true := c33
             clear c33
             obtain rfl := Option.some.inj H
             have hnb34 := NB191_192.out
             have hnc34 := NB192_191.out
             have hcz35_0 : wr.cell? ⟨gb191, 0, none⟩ = some (.int .i64 a0_0) := (bc BK191.out 0).trans rfl
             have hcz35_1 : wr.cell? ⟨gb191, 1, none⟩ = some (.slice A0_1 l0_1.length c0_1) := (bc BK191.out 1).trans rfl
             have hcz35_2 : wr.cell? ⟨gb191, 2, none⟩ = some (.slice A0_2 l0_2.length c0_2) := (bc BK191.out 2).trans rfl
             have hfz35_0 := bf BK191.out 0
             have hfz35_1 := bf BK191.out 1
             have hfz35_2 := bf BK191.out 2
             have p195 : 0 ≤ (x6_3 : Int) := of_decide_eq_true (by first | (with_reducible assumption) | assumption)
             have q195 : x6_3 < (l0_2.length : Int) := of_decide_eq_true (by first | (with_reducible assumption) | assumption)
             obtain ⟨ad195, e195, hx195_0, hx195_1, hx195_2, hx195_3⟩ := at_T36 HR0_2.out x6_3 p195 q195
             cases e195
             replace hx195_0 := (HB.out.cell (World.block_lt_of_cell? w _ hx195_0)).trans hx195_0
             replace hx195_1 := (HB.out.cell (World.block_lt_of_cell? w _ hx195_1)).trans hx195_1
             replace hx195_2 := (HB.out.cell (World.block_lt_of_cell? w _ hx195_2)).trans hx195_2
             replace hx195_3 := (HB.out.cell (World.block_lt_of_cell? w _ hx195_3)).trans hx195_3
             replace p195 := eq_true p195
             replace q195 := eq_true q195
             have hcz36_0 : wr.cell? ⟨gb192, 0, none⟩ = some (.int .i64 a1_0) := (bc BK192.out 0).trans rfl
             have hcz36_1 : wr.cell? ⟨gb192, 1, none⟩ = some (.slice A1_1 l1_1.length c1_1) := (bc BK192.out 1).trans rfl
             have hcz36_2 : wr.cell? ⟨gb192, 2, none⟩ = some (.slice A1_2 l1_2.length c1_2) := (bc BK192.out 2).trans rfl
             have hfz36_0 := bf BK192.out 0
             have hfz36_1 := bf BK192.out 1
             have hfz36_2 := bf BK192.out 2
             have p196 : 0 ≤ (x6_3 : Int) := of_decide_eq_true (by first | (with_reducible assumption) | assumption)
             have q196 : x6_3 < (l1_2.length : Int) := of_decide_eq_true (by first | (with_reducible assumption) | assumption)
             obtain ⟨ad196, e196, hx196_0, hx196_1, hx196_2, hx196_3⟩ := at_T36 HR1_2.out x6_3 p196 q196
             cases e196
             replace hx196_0 := (HB.out.cell (World.block_lt_of_cell? w _ hx196_0)).trans hx196_0
             replace hx196_1 := (HB.out.cell (World.block_lt_of_cell? w _ hx196_1)).trans hx196_1
             replace hx196_2 := (HB.out.cell (World.block_lt_of_cell? w _ hx196_2)).trans hx196_2
             replace hx196_3 := (HB.out.cell (World.block_lt_of_cell? w _ hx196_3)).trans hx196_3
             replace p196 := eq_true p196
             replace q196 := eq_true q196
             go_wp2
             repeat (go_quiet (fail); try go_wp2)
             go_ret
             exact ⟨by first | rfl | (simp [errW_none, errW_some] <;> rfl) | (simp [*, errW_none, errW_some] <;> rfl) | (simp [Aid.ne_nil, Aid.eq_nil, errW_none, errW_some]; done), by repeat (first | (with_reducible first | exact HB.out | apply bl | apply pN | apply b1 | refine bs ?_ GE191.out | refine bs ?_ GE192.out) | exact HB.out | exact HBo.out)⟩
            ·
             rw [if_neg c33] at H
             have c33b0 : (!(((rd_T36 l0_2 x6_3).f0) == ((rd_T36 l1_2 x6_3).f0)) || (!(((rd_T36 l0_2 x6_3).f1) == ((rd_T36 l1_2 x6_3).f1)) || (!(((rd_T36 l0_2 x6_3).f2) == ((rd_T36 l1_2 x6_3).f2)) || (!(((rd_T36 l0_2 x6_3).f3) == ((rd_T36 l1_2 x6_3).f3)))))) = false := by simpa using c33
             clear c33
             have H' := Am H
             clear H
             have hnb37 := NB191_192.out
             have hnc37 := NB192_191.out
             have hcz38_0 : wr.cell? ⟨gb191, 0, none⟩ = some (.int .i64 a0_0) := (bc BK191.out 0).trans rfl
             have hcz38_1 : wr.cell? ⟨gb191, 1, none⟩ = some (.slice A0_1 l0_1.length c0_1) := (bc BK191.out 1).trans rfl
             have hcz38_2 : wr.cell? ⟨gb191, 2, none⟩ = some (.slice A0_2 l0_2.length c0_2) := (bc BK191.out 2).trans rfl
             have hfz38_0 := bf BK191.out 0
             have hfz38_1 := bf BK191.out 1
             have hfz38_2 := bf BK191.out 2
             have p195 : 0 ≤ (x6_3 : Int) := of_decide_eq_true (by first | (with_reducible assumption) | assumption)
             have q195 : x6_3 < (l0_2.length : Int) := of_decide_eq_true (by first | (with_reducible assumption) | assumption)
             obtain ⟨ad195, e195, hx195_0, hx195_1, hx195_2, hx195_3⟩ := at_T36 HR0_2.out x6_3 p195 q195
             cases e195
             replace hx195_0 := (HB.out.cell (World.block_lt_of_cell? w _ hx195_0)).trans hx195_0
             replace hx195_1 := (HB.out.cell (World.block_lt_of_cell? w _ hx195_1)).trans hx195_1
             replace hx195_2 := (HB.out.cell (World.block_lt_of_cell? w _ hx195_2)).trans hx195_2
             replace hx195_3 := (HB.out.cell (World.block_lt_of_cell? w _ hx195_3)).trans hx195_3
             replace p195 := eq_true p195
             replace q195 := eq_true q195
             have hcz39_0 : wr.cell? ⟨gb192, 0, none⟩ = some (.int .i64 a1_0) := (bc BK192.out 0).trans rfl
             have hcz39_1 : wr.cell? ⟨gb192, 1, none⟩ = some (.slice A1_1 l1_1.length c1_1) := (bc BK192.out 1).trans rfl
             have hcz39_2 : wr.cell? ⟨gb192, 2, none⟩ = some (.slice A1_2 l1_2.length c1_2) := (bc BK192.out 2).trans rfl
             have hfz39_0 := bf BK192.out 0
             have hfz39_1 := bf BK192.out 1
             have hfz39_2 := bf BK192.out 2
             have p196 : 0 ≤ (x6_3 : Int) := of_decide_eq_true (by first | (with_reducible assumption) | assumption)
             have q196 : x6_3 < (l1_2.length : Int) := of_decide_eq_true (by first | (with_reducible assumption) | assumption)
             obtain ⟨ad196, e196, hx196_0, hx196_1, hx196_2, hx196_3⟩ := at_T36 HR1_2.out x6_3 p196 q196
             cases e196
             replace hx196_0 := (HB.out.cell (World.block_lt_of_cell? w _ hx196_0)).trans hx196_0
             replace hx196_1 := (HB.out.cell (World.block_lt_of_cell? w _ hx196_1)).trans hx196_1
             replace hx196_2 := (HB.out.cell (World.block_lt_of_cell? w _ hx196_2)).trans hx196_2
             replace hx196_3 := (HB.out.cell (World.block_lt_of_cell? w _ hx196_3)).trans hx196_3
             replace p196 := eq_true p196
             replace q196 := eq_true q196
             go_wp2
             repeat (go_quiet (fail); try go_wp2)
             go_roundg k3
             case measure => have := HJ2.out; have := HK2.out; have := HK3.out; omega
             case rel => exact ⟨(wrap64 (x6_3 + 1)), (by first | rfl | (simp; done) | (simp [*]; done)), H', ⟨by have := HJ2.out; have := HK2.out; have := HK3.out; omega⟩, ⟨by (with_reducible repeat (first | refine bn ?_ _ | refine bd ?_ | refine ba ?_ _)); exact BK191.out⟩, ⟨by (with_reducible repeat (first | refine bn ?_ _ | refine bd ?_ | refine ba ?_ _)); exact BK192.out⟩, ⟨by repeat (first | (with_reducible first | exact HB.out | apply bl | apply pN | apply b1 | refine bs ?_ GE191.out | refine bs ?_ GE192.out) | exact HB.out | exact HBo.out)⟩⟩
           ·
            rw [if_neg c32] at H
            exact absurd H (by simp)
          ·
           rw [if_neg c31] at H
           exact absurd H (by simp)
         ·
          rw [if_neg c30] at H
          have c30b0 : decide (x6_3 < (l0_2.length : Int)) = false := decide_eq_false c30
          clear c30
          obtain rfl := Option.some.inj H
          have hnb40 := NB191_192.out
          have hnc40 := NB192_191.out
          have hcz41_0 : wr.cell? ⟨gb191, 0, none⟩ = some (.int .i64 a0_0) := (bc BK191.out 0).trans rfl
          have hcz41_1 : wr.cell? ⟨gb191, 1, none⟩ = some (.slice A0_1 l0_1.length c0_1) := (bc BK191.out 1).trans rfl
          have hcz41_2 : wr.cell? ⟨gb191, 2, none⟩ = some (.slice A0_2 l0_2.length c0_2) := (bc BK191.out 2).trans rfl
          have hfz41_0 := bf BK191.out 0
          have hfz41_1 := bf BK191.out 1
          have hfz41_2 := bf BK191.out 2
          go_wp2
          repeat (go_quiet (fail); try go_wp2)
          go_ret
          exact ⟨by first | rfl | (simp [errW_none, errW_some] <;> rfl) | (simp [*, errW_none, errW_some] <;> rfl) | (simp [Aid.ne_nil, Aid.eq_nil, errW_none, errW_some]; done), by repeat (first | (with_reducible first | exact HB.out | apply bl | apply pN | apply b1 | refine bs ?_ GE191.out | refine bs ?_ GE192.out) | exact HB.out | exact HBo.out)⟩

/-! ### shuttlecocklaw08_one: function 18 -/
def shuttlecocklaw08_one.f  : Option (Int × (List (S46)) × (List (S36))) := some (5, (([(⟨1, 2⟩ : S46)] : List (S46))), (([(⟨1, 2, 1, 3⟩ : S36)] : List (S36))))
set_option maxHeartbeats 8000000 in
set_option maxRecDepth 100000 in
theorem shuttlecocklaw08_one.calls  (r1 : Int) (r2 : List (S46)) (r3 : List (S36)) (w : World) (h : shuttlecocklaw08_one.f  = some (r1, r2, r3)) :
  Calls Try.prog 18 #[] w fun e w' => ∃ v1_ v2_ : Value, e = .returned (.agg #[.int .i64 r1, v1_, v2_]) ∧ Kd.R k46 46 w' w.heap.size (fun _ => True) v1_ r2 ∧ Kd.R k36 36 w' w.heap.size (fun _ => True) v2_ r3 ∧ Below w.heap.size w w' := by
 have hu25 := Try.underlying25
 have hu46 := Try.underlying46
 have hu36 := Try.underlying36
 have HB := Am (Below.refl w.heap.size w)
 have H : (some (5, (([(⟨1, 2⟩ : S46)] : List (S46))), (([(⟨1, 2, 1, 3⟩ : S36)] : List (S36))))) = some (r1, r2, r3) := h
 clear h
 obtain ⟨y198, hy198⟩ : ∃ y_ : List (S46), y_ = (([(⟨1, 2⟩ : S46)] : List (S46))) := ⟨_, rfl⟩
 replace H : (some (5, y198, (([(⟨1, 2, 1, 3⟩ : S36)] : List (S36))))) = some (r1, r2, r3) := by first | (rw [hy198]; with_reducible exact H) | (have H2_ := (Option.bind_some _ _).symm.trans H; rw [hy198]; with_reducible exact H2_) | (have H2_ := (Option.bind_some _ _).symm.trans H; with_reducible exact H2_) | with_reducible exact H | (rw [hy198]; exact H) | exact H
 have Ny198 := Am hy198
 clear hy198
 obtain ⟨y201, hy201⟩ : ∃ y_ : List (S36), y_ = (([(⟨1, 2, 1, 3⟩ : S36)] : List (S36))) := ⟨_, rfl⟩
 replace H : (some (5, y198, y201)) = some (r1, r2, r3) := by first | (rw [hy201]; with_reducible exact H) | (have H2_ := (Option.bind_some _ _).symm.trans H; rw [hy201]; with_reducible exact H2_) | (have H2_ := (Option.bind_some _ _).symm.trans H; with_reducible exact H2_) | with_reducible exact H | (rw [hy201]; exact H) | exact H
 have Ny201 := Am hy201
 clear hy201
 simp only [Option.some.injEq, Prod.mk.injEq] at H
 obtain ⟨rfl, rfl, rfl⟩ := H
 go_enter Try.func18, Try.ntmps18
 go_wp2_with (first | ((with_reducible refine gate_dst (N := 0) rfl ?_); refine box_event ?hg (N := 0) ?hd (cs := #[.int .i64 0, .slice none 0 0, .slice none 0 0]) (t := 25) ?hr ?_; (case hd => rfl); (case hg => rfl); (case hr => first | (go_simp; done) | (go_simp; rfl)); intro gb197 hg w1 hbox hb; have n0_ := Am (below_step (by repeat (first | (with_reducible first | exact HB.out | apply bl | apply pN | apply b1) | exact HB.out | exact HBo.out)) hb); have n1_ := Am (hbox); have n2_ := Am ((by rw [hg]; exact (below_size (by repeat (first | (with_reducible first | exact HB.out | apply bl | apply pN | apply b1) | exact HB.out | exact HBo.out))) : w.heap.size ≤ gb197)); have n3_ := Am ((by rw [hg]; exact (below_size (by repeat (first | (with_reducible first | exact HB.out | apply bl | apply pN | apply b1) | exact HB.out | exact HBo.out))) : w.heap.size ≤ gb197)); clear HB; have HB := n0_; have BK197 := n1_; have GW197 := n2_; have GE197 := n3_; clear n0_ n1_ n2_ n3_; clear hb hbox hg) | ((with_reducible refine gate_dst (N := 2) rfl ?_); refine Kd.R_lit k46 _ 46 ?hg (N := 2) ?hd (xs := ([(⟨1, 2⟩ : S46)] : List (S46))) (inner := [.int .i64 1, .int .i64 2]) (ok := fun _ => True) (okp := fun _ => True) ?hr ?hp (fun _ hk => hk) trivial (Below.refl _ _) (Nat.le_refl _) (by simp) ?_; (case hd => rfl); (case hg => rfl); (case hr => first | (go_simp; done) | (go_simp; rfl)); (case hp => exact (Reps.c2 (show Kd.M k46 _ _ _ (⟨1, 2⟩ : S46) [.int .i64 1, .int .i64 2] from (k46_mkM _ _ _ (⟨1, 2⟩ : S46) )) (Reps.none _ _))); intro v199 w2 ho3 hb hg_ hnew_; clear hg_ hnew_; (first | rw [← Ny198.out] at ho3 | (simp only [Int.reduceToNat] at ho3; rw [← Ny198.out] at ho3)); have n0_ := Am (Kd.R_lower ho3 (below_size (by repeat (first | (with_reducible first | exact HB.out | apply bl | apply pN | apply b1 | refine bs ?_ GE197.out) | exact HB.out | exact HBo.out)))); have n1_ := Am (blk_below (g := gb197) (o := .cells #[.int .i64 0, .slice none 0 0, .slice none 0 0] 25 (0, 0)) (by (with_reducible repeat (first | refine bn ?_ _ | refine bd ?_ | refine ba ?_ _)); exact BK197.out) hb); have n2_ := Am (below_step (by repeat (first | (with_reducible first | exact HB.out | apply bl | apply pN | apply b1 | refine bs ?_ GE197.out) | exact HB.out | exact HBo.out)) hb); clear BK197; clear HB; have HO200 := n0_; have BK197 := n1_; have HB := n2_; clear n0_ n1_ n2_; clear hb ho3) | ((with_reducible refine gate_dst (N := 4) rfl ?_); refine Kd.R_lit k36 _ 36 ?hg (N := 4) ?hd (xs := ([(⟨1, 2, 1, 3⟩ : S36)] : List (S36))) (inner := [.int .i64 1, .int .i64 2, .int .i64 1, .int .i64 3]) (ok := fun _ => True) (okp := fun _ => True) ?hr ?hp (fun _ hk => hk) trivial (Below.refl _ _) (Nat.le_refl _) (by simp) ?_; (case hd => rfl); (case hg => rfl); (case hr => first | (go_simp; done) | (go_simp; rfl)); (case hp => exact (Reps.c4 (show Kd.M k36 _ _ _ (⟨1, 2, 1, 3⟩ : S36) [.int .i64 1, .int .i64 2, .int .i64 1, .int .i64 3] from (k36_mkM _ _ _ (⟨1, 2, 1, 3⟩ : S36) )) (Reps.none _ _))); intro v202 w4 ho5 hb hg_ hnew_; clear hg_ hnew_; (first | rw [← Ny201.out] at ho5 | (simp only [Int.reduceToNat] at ho5; rw [← Ny201.out] at ho5)); have n0_ := Am (Kd.R_below (by (with_reducible repeat (first | apply Kd.R_alloc | apply Kd.R_drewN | apply Kd.R_drew)); exact HO200.out) hb); have n1_ := Am (Kd.R_lower ho5 (below_size (by repeat (first | (with_reducible first | exact HB.out | apply bl | apply pN | apply b1 | refine bs ?_ GE197.out) | exact HB.out | exact HBo.out)))); have n2_ := Am (blk_below (g := gb197) (o := .cells #[.int .i64 0, .slice none 0 0, .slice none 0 0] 25 (0, 0)) (by (with_reducible repeat (first | refine bn ?_ _ | refine bd ?_ | refine ba ?_ _)); exact BK197.out) hb); have n3_ := Am (below_step (by repeat (first | (with_reducible first | exact HB.out | apply bl | apply pN | apply b1 | refine bs ?_ GE197.out) | exact HB.out | exact HBo.out)) hb); clear HO200; clear BK197; clear HB; have HO200 := n0_; have HO203 := n1_; have BK197 := n2_; have HB := n3_; clear n0_ n1_ n2_ n3_; clear hb ho5; obtain ⟨Ao6, co6, eo6⟩ := Kd.R_slice HO203.out; subst eo6; obtain ⟨Ao7, co7, eo7⟩ := Kd.R_slice HO200.out; subst eo7; have hcz8_0 : w4.cell? ⟨gb197, 0, none⟩ = some (.int .i64 0) := (bc BK197.out 0).trans rfl; have hcz8_1 : w4.cell? ⟨gb197, 1, none⟩ = some (.slice none 0 0) := (bc BK197.out 1).trans rfl; have hcz8_2 : w4.cell? ⟨gb197, 2, none⟩ = some (.slice none 0 0) := (bc BK197.out 2).trans rfl; have hfz8_0 := bf BK197.out 0; have hfz8_1 := bf BK197.out 1; have hfz8_2 := bf BK197.out 2))
 refine bodyPost_ret (results_cell_row rfl _ _ gb197 25 #[.int .i64 5, .slice Ao7 y198.length co7, .slice Ao6 y201.length co6] (0, 0) _ rfl (by (with_reducible repeat (first | refine bn ?_ _ | refine bd ?_ | refine ba ?_ _)); refine blk_put (cs := #[.int .i64 5, .slice Ao7 y198.length co7, .slice none 0 0]) ?_ 2 _ rfl; (with_reducible repeat (first | refine bn ?_ _ | refine bd ?_ | refine ba ?_ _)); refine blk_put (cs := #[.int .i64 5, .slice none 0 0, .slice none 0 0]) ?_ 1 _ rfl; (with_reducible repeat (first | refine bn ?_ _ | refine bd ?_ | refine ba ?_ _)); refine blk_put (cs := #[.int .i64 0, .slice none 0 0, .slice none 0 0]) ?_ 0 _ rfl; (with_reducible repeat (first | refine bn ?_ _ | refine bd ?_ | refine ba ?_ _)); exact BK197.out) Try.underlying25 rfl (by kernel_rfl)) rfl ?_
 exact ⟨_, _, by first | rfl | (simp [errW_none, errW_some] <;> rfl) | (simp [*, errW_none, errW_some] <;> rfl) | (simp [Aid.ne_nil, Aid.eq_nil, errW_none, errW_some]; done), by (with_reducible repeat (first | apply Kd.R_alloc | apply Kd.R_drewN | apply Kd.R_drew)); exact Kd.R_mono (Kd.R_far (p := ⟨gb197, 2, none⟩) (Kd.R_far (p := ⟨gb197, 1, none⟩) (Kd.R_far (p := ⟨gb197, 0, none⟩) (Kd.R_types HO200.out BK197.out (by decide)) (fun _ hk => hk.2) (.int .i64 5)) (fun _ hk => hk.2) (.slice Ao7 y198.length co7)) (fun _ hk => hk.2) (.slice Ao6 y201.length co6)) (fun _ hk => trivial), by (with_reducible repeat (first | apply Kd.R_alloc | apply Kd.R_drewN | apply Kd.R_drew)); exact Kd.R_mono (Kd.R_far (p := ⟨gb197, 2, none⟩) (Kd.R_far (p := ⟨gb197, 1, none⟩) (Kd.R_far (p := ⟨gb197, 0, none⟩) (Kd.R_types HO203.out BK197.out (by decide)) (fun _ hk => hk.2) (.int .i64 5)) (fun _ hk => hk.2) (.slice Ao7 y198.length co7)) (fun _ hk => hk.2) (.slice Ao6 y201.length co6)) (fun _ hk => trivial), by repeat (first | (with_reducible first | exact HB.out | apply bl | apply pN | apply b1 | refine bs ?_ GE197.out) | exact HB.out | exact HBo.out)⟩

end Go.Proofs.Ythfdhoegboeaeaa.Q
