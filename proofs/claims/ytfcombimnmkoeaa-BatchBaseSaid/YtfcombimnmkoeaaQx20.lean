-- printed by a program of this session (NOTES: hprint); not the kit's print
-- minified
-- halved
import Derived.Test.YtfcombimnmkoeaaAl
import Derived.Test.YtfcombimnmkoeaaQx0
import Derived.Test.YtfcombimnmkoeaaQx2
import Derived.Test.YtfcombimnmkoeaaQx5
import Derived.Test.YtfcombimnmkoeaaQx29
import Derived.Test.YtfcombimnmkoeaaQx15
namespace Go.Proofs.Ytfcombimnmkoeaa.Q
open Go.RowKit Go.Proofs.YtfcombimnmkoeaaW.PrintWords Go.Proofs.YtfcombimnmkoeaaW.PrintLast Go.Proofs.YtfcombimnmkoeaaW.PrintMore
attribute [local go_sem] max2_int min2_int max_two min_two max_three min_three max_four min_four   -- for this text's walks alone
set_option linter.unusedVariables false
set_option linter.unusedSimpArgs false

/-! ### shuttlecocklaw05_BatchBase: function 6 -/
mutual
def shuttlecocklaw05_BatchBase.j0 : Nat → Int → List (S41) → List Int → Bool → Int → Int → Int → ByteArray → Int → Int → Int → ByteArray → Option (Bool)
 | 0, _, _, _, _, _, _, _, _, _, _, _, _ => none
 | k + 1, x1, x5, x6, x41, x645000, x645001, x645002, x645003, x654000, x654001, x654002, x654003 => if x41 = true then ((shuttlecocklaw05_fixed.f k).bind fun t656 => (some t656)) else ((batch_Events.f k x654000 x654001 x654002 x654003).bind fun bt657 => (if bt657.2.2.2 = 0 then (shuttlecocklaw05_BatchBase.l0 k x1 x5 x6 bt657.1 bt657.2.1 0 x645000 x645001 x645002 x645003) else (if bt657.2.2.2 = 11 then (some (decide (x1 > x645002))) else (none))))
def shuttlecocklaw05_BatchBase.l0 : Nat → Int → List (S41) → List Int → List (S41) → List Int → Int → Int → Int → Int → ByteArray → Option (Bool)
 | 0, _, _, _, _, _, _, _, _, _, _ => none
 | k + 1, x1, x5, x6, x10, x11, x14, x645000, x645001, x645002, x645003 => if x14 < (x6.length : Int) then (shuttlecocklaw05_BatchBase.j2 k x1 x5 x6 x10 x11 x14 (decide (x14 < (x11.length : Int))) x645000 x645001 x645002 x645003) else (shuttlecocklaw05_BatchBase.j2 k x1 x5 x6 x10 x11 x14 false x645000 x645001 x645002 x645003)
def shuttlecocklaw05_BatchBase.j2 : Nat → Int → List (S41) → List Int → List (S41) → List Int → Int → Bool → Int → Int → Int → ByteArray → Option (Bool)
 | 0, _, _, _, _, _, _, _, _, _, _, _ => none
 | k + 1, x1, x5, x6, x10, x11, x14, x69, x645000, x645001, x645002, x645003 => if x69 = true then (if 0 ≤ x14 then (if x14 < (x11.length : Int) then (if x14 < (x6.length : Int) then (if (wrap64 ((rd x11 x14) - (rd x6 x14))) = (wrap64 (x1 - x645002)) then (shuttlecocklaw05_BatchBase.l0 k x1 x5 x6 x10 x11 (wrap64 (x14 + 1)) x645000 x645001 x645002 x645003) else (none)) else (none)) else (none)) else (none)) else ((shuttlecockref04_All.f k x10 x5).bind fun t667 => (if t667 = true then (some ((x11.length : Int) == (x6.length : Int))) else (none)))
end
def shuttlecocklaw05_BatchBase.f (k : Nat) (a0_0 : Int) (a0_1 : Int) (a0_2 : Int) (a0_3 : ByteArray) (a1 : Int) : Option (Bool) := (batch_Events.f k a0_0 a0_1 a0_2 a0_3).bind fun bt645 => ((shuttlecocklaw05_fixed.f k).bind fun t654 => (if t654 = true then (if (a0_3.size : Int) > 3000 then (shuttlecocklaw05_BatchBase.j0 k a1 bt645.1 bt645.2.1 true a0_0 a0_1 a0_2 a0_3 a0_0 a0_1 a1 a0_3) else (if bt645.2.2.2 = 0 then ((batch_May.f a0_0 a0_1 a1 a0_3).bind fun t655 => (shuttlecocklaw05_BatchBase.j0 k a1 bt645.1 bt645.2.1 (!t655) a0_0 a0_1 a0_2 a0_3 a0_0 a0_1 a1 a0_3)) else (shuttlecocklaw05_BatchBase.j0 k a1 bt645.1 bt645.2.1 true a0_0 a0_1 a0_2 a0_3 a0_0 a0_1 a1 a0_3))) else (shuttlecocklaw05_BatchBase.j0 k a1 bt645.1 bt645.2.1 true a0_0 a0_1 a0_2 a0_3 a0_0 a0_1 a1 a0_3)))
theorem shuttlecocklaw05_BatchBase.mono_l : ∀ k, (∀ y0 y1 y2 y3 y4 y5 y6 y7 y8 y9 y10 y11, LeO (shuttlecocklaw05_BatchBase.j0 k y0 y1 y2 y3 y4 y5 y6 y7 y8 y9 y10 y11) (shuttlecocklaw05_BatchBase.j0 (k + 1) y0 y1 y2 y3 y4 y5 y6 y7 y8 y9 y10 y11)) ∧ (∀ y0 y1 y2 y3 y4 y5 y6 y7 y8 y9, LeO (shuttlecocklaw05_BatchBase.l0 k y0 y1 y2 y3 y4 y5 y6 y7 y8 y9) (shuttlecocklaw05_BatchBase.l0 (k + 1) y0 y1 y2 y3 y4 y5 y6 y7 y8 y9)) ∧ (∀ y0 y1 y2 y3 y4 y5 y6 y7 y8 y9 y10, LeO (shuttlecocklaw05_BatchBase.j2 k y0 y1 y2 y3 y4 y5 y6 y7 y8 y9 y10) (shuttlecocklaw05_BatchBase.j2 (k + 1) y0 y1 y2 y3 y4 y5 y6 y7 y8 y9 y10))
 | 0 => ⟨fun _ _ _ _ _ _ _ _ _ _ _ _ r h => by simp [shuttlecocklaw05_BatchBase.j0] at h, fun _ _ _ _ _ _ _ _ _ _ r h => by simp [shuttlecocklaw05_BatchBase.l0] at h, fun _ _ _ _ _ _ _ _ _ _ _ r h => by simp [shuttlecocklaw05_BatchBase.j2] at h⟩
 | k + 1 => by
  obtain ⟨ih0, ih1, ih2⟩ := shuttlecocklaw05_BatchBase.mono_l k
  refine ⟨?_, ?_, ?_⟩
  ·
   intro y0 y1 y2 y3 y4 y5 y6 y7 y8 y9 y10 y11
   unfold shuttlecocklaw05_BatchBase.j0
   repeat' first
   | (with_reducible exact ih0 _ _ _ _ _ _ _ _ _ _ _ _)
   | (with_reducible exact ih1 _ _ _ _ _ _ _ _ _ _)
   | (with_reducible exact ih2 _ _ _ _ _ _ _ _ _ _ _)
   | (with_reducible exact batch_Events.mono _ _ _ _ _)
   | (with_reducible exact shuttlecocklaw05_fixed.mono _)
   | (with_reducible exact shuttlecockref04_All.mono _ _ _)
   | (with_reducible exact LeO.refl _)
   | (with_reducible exact LeO.none _)
   | (with_reducible refine LeO.ite ?_ ?_)
   | (with_reducible refine LeO.bind ?_ (fun _ => ?_))
   | exact ih0 _ _ _ _ _ _ _ _ _ _ _ _
   | exact ih1 _ _ _ _ _ _ _ _ _ _
   | exact ih2 _ _ _ _ _ _ _ _ _ _ _
   | exact batch_Events.mono _ _ _ _ _
   | exact shuttlecocklaw05_fixed.mono _
   | exact shuttlecockref04_All.mono _ _ _
   | exact LeO.none _
   | refine LeO.ite ?_ ?_
   | refine LeO.bind ?_ (fun _ => ?_)
  ·
   intro y0 y1 y2 y3 y4 y5 y6 y7 y8 y9
   unfold shuttlecocklaw05_BatchBase.l0
   repeat' first
   | (with_reducible exact ih0 _ _ _ _ _ _ _ _ _ _ _ _)
   | (with_reducible exact ih1 _ _ _ _ _ _ _ _ _ _)
   | (with_reducible exact ih2 _ _ _ _ _ _ _ _ _ _ _)
   | (with_reducible exact batch_Events.mono _ _ _ _ _)
   | (with_reducible exact shuttlecocklaw05_fixed.mono _)
   | (with_reducible exact shuttlecockref04_All.mono _ _ _)
   | (with_reducible exact LeO.refl _)
   | (with_reducible exact LeO.none _)
   | (with_reducible refine LeO.ite ?_ ?_)
   | (with_reducible refine LeO.bind ?_ (fun _ => ?_))
   | exact ih0 _ _ _ _ _ _ _ _ _ _ _ _
   | exact ih1 _ _ _ _ _ _ _ _ _ _
   | exact ih2 _ _ _ _ _ _ _ _ _ _ _
   | exact batch_Events.mono _ _ _ _ _
   | exact shuttlecocklaw05_fixed.mono _
   | exact shuttlecockref04_All.mono _ _ _
   | exact LeO.none _
   | refine LeO.ite ?_ ?_
   | refine LeO.bind ?_ (fun _ => ?_)
  ·
   intro y0 y1 y2 y3 y4 y5 y6 y7 y8 y9 y10
   unfold shuttlecocklaw05_BatchBase.j2
   repeat' first
   | (with_reducible exact ih0 _ _ _ _ _ _ _ _ _ _ _ _)
   | (with_reducible exact ih1 _ _ _ _ _ _ _ _ _ _)
   | (with_reducible exact ih2 _ _ _ _ _ _ _ _ _ _ _)
   | (with_reducible exact batch_Events.mono _ _ _ _ _)
   | (with_reducible exact shuttlecocklaw05_fixed.mono _)
   | (with_reducible exact shuttlecockref04_All.mono _ _ _)
   | (with_reducible exact LeO.refl _)
   | (with_reducible exact LeO.none _)
   | (with_reducible refine LeO.ite ?_ ?_)
   | (with_reducible refine LeO.bind ?_ (fun _ => ?_))
   | exact ih0 _ _ _ _ _ _ _ _ _ _ _ _
   | exact ih1 _ _ _ _ _ _ _ _ _ _
   | exact ih2 _ _ _ _ _ _ _ _ _ _ _
   | exact batch_Events.mono _ _ _ _ _
   | exact shuttlecocklaw05_fixed.mono _
   | exact shuttlecockref04_All.mono _ _ _
   | exact LeO.none _
   | refine LeO.ite ?_ ?_
   | refine LeO.bind ?_ (fun _ => ?_)
theorem shuttlecocklaw05_BatchBase.mono : ∀ a0 a1 a2 a3 a4 k, LeO (shuttlecocklaw05_BatchBase.f k a0 a1 a2 a3 a4) (shuttlecocklaw05_BatchBase.f (k + 1) a0 a1 a2 a3 a4) := by
 intro a0 a1 a2 a3 a4 k
 obtain ⟨ih0, ih1, ih2⟩ := shuttlecocklaw05_BatchBase.mono_l k
 unfold shuttlecocklaw05_BatchBase.f
 repeat' first
   | (with_reducible exact ih0 _ _ _ _ _ _ _ _ _ _ _ _)
   | (with_reducible exact ih1 _ _ _ _ _ _ _ _ _ _)
   | (with_reducible exact ih2 _ _ _ _ _ _ _ _ _ _ _)
   | (with_reducible exact batch_Events.mono _ _ _ _ _)
   | (with_reducible exact shuttlecocklaw05_fixed.mono _)
   | (with_reducible exact shuttlecockref04_All.mono _ _ _)
   | (with_reducible exact LeO.refl _)
   | (with_reducible exact LeO.none _)
   | (with_reducible refine LeO.ite ?_ ?_)
   | (with_reducible refine LeO.bind ?_ (fun _ => ?_))
   | exact ih0 _ _ _ _ _ _ _ _ _ _ _ _
   | exact ih1 _ _ _ _ _ _ _ _ _ _
   | exact ih2 _ _ _ _ _ _ _ _ _ _ _
   | exact batch_Events.mono _ _ _ _ _
   | exact shuttlecocklaw05_fixed.mono _
   | exact shuttlecockref04_All.mono _ _ _
   | exact LeO.none _
   | refine LeO.ite ?_ ?_
   | refine LeO.bind ?_ (fun _ => ?_)
set_option maxHeartbeats 8000000 in
set_option maxRecDepth 100000 in
theorem shuttlecocklaw05_BatchBase.calls (k : Nat) (a0_0 : Int) (a0_1 : Int) (a0_2 : Int) (a0_3 : ByteArray) (a1 : Int) (r : Bool) (w : World) (h : shuttlecocklaw05_BatchBase.f k a0_0 a0_1 a0_2 a0_3 a1 = some r) :
  Calls Try.prog 6 #[.agg #[.int .i64 a0_0, .int .i64 a0_1, .int .i64 a0_2, .string a0_3], .int .i64 a1] w fun e w' => e = .returned (.bool r) ∧ Below w.heap.size w w' := by
 have hu23 := Try.underlying23
 have HB := Am (Below.refl w.heap.size w)
 have H : ((batch_Events.f k a0_0 a0_1 a0_2 a0_3).bind fun bt645 => ((shuttlecocklaw05_fixed.f k).bind fun t654 => (if t654 = true then (if (a0_3.size : Int) > 3000 then (shuttlecocklaw05_BatchBase.j0 k a1 bt645.1 bt645.2.1 true a0_0 a0_1 a0_2 a0_3 a0_0 a0_1 a1 a0_3) else (if bt645.2.2.2 = 0 then ((batch_May.f a0_0 a0_1 a1 a0_3).bind fun t655 => (shuttlecocklaw05_BatchBase.j0 k a1 bt645.1 bt645.2.1 (!t655) a0_0 a0_1 a0_2 a0_3 a0_0 a0_1 a1 a0_3)) else (shuttlecocklaw05_BatchBase.j0 k a1 bt645.1 bt645.2.1 true a0_0 a0_1 a0_2 a0_3 a0_0 a0_1 a1 a0_3))) else (shuttlecocklaw05_BatchBase.j0 k a1 bt645.1 bt645.2.1 true a0_0 a0_1 a0_2 a0_3 a0_0 a0_1 a1 a0_3)))) = some r := h
 clear h
 replace H := ob H
 obtain ⟨⟨t645, t648, t651, t652⟩, A30, H⟩ := H
 replace H : ((shuttlecocklaw05_fixed.f k).bind fun t654 => (if t654 = true then (if (a0_3.size : Int) > 3000 then (shuttlecocklaw05_BatchBase.j0 k a1 t645 t648 true a0_0 a0_1 a0_2 a0_3 a0_0 a0_1 a1 a0_3) else (if t652 = 0 then ((batch_May.f a0_0 a0_1 a1 a0_3).bind fun t655 => (shuttlecocklaw05_BatchBase.j0 k a1 t645 t648 (!t655) a0_0 a0_1 a0_2 a0_3 a0_0 a0_1 a1 a0_3)) else (shuttlecocklaw05_BatchBase.j0 k a1 t645 t648 true a0_0 a0_1 a0_2 a0_3 a0_0 a0_1 a1 a0_3))) else (shuttlecocklaw05_BatchBase.j0 k a1 t645 t648 true a0_0 a0_1 a0_2 a0_3 a0_0 a0_1 a1 a0_3))) = some r := H
 have A3 := Am A30
 clear A30
 have HC4 := Am H
 clear H
 go_enter Try.func6, Try.ntmps6
 go_upto_region 4 with (first | ((with_reducible refine gate_dst (N := 2) rfl ?_); (try (refine gate_guard (by rfl) ?_; dsimp only)); refine box_event ?hg (N := 2) ?hd (cs := #[.int .i64 a0_0, .int .i64 a0_1, .int .i64 a0_2, .string a0_3]) (t := 23) ?hr ?_; (case hd => rfl); (case hg => rfl); (case hr => first | (go_simp; done) | (go_simp; rfl)); intro gb644 hg w5 hbox hb; have n0_ := Am (below_step (by repeat (first | (with_reducible first | exact HB.out | apply bl | apply pN | apply b1) | exact HB.out | exact HBo.out)) hb); have n1_ := Am (hbox); have n2_ := Am ((by rw [hg]; exact (below_size (by repeat (first | (with_reducible first | exact HB.out | apply bl | apply pN | apply b1) | exact HB.out | exact HBo.out))) : w.heap.size ≤ gb644)); have n3_ := Am ((by rw [hg]; exact (below_size (by repeat (first | (with_reducible first | exact HB.out | apply bl | apply pN | apply b1) | exact HB.out | exact HBo.out))) : w.heap.size ≤ gb644)); clear HB; have HB := n0_; have BK644 := n1_; have GW644 := n2_; have GE644 := n3_; clear n0_ n1_ n2_ n3_; clear hb hbox hg; have hcz6_0 : w5.cell? ⟨gb644, 0, none⟩ = some (.int .i64 a0_0) := (bc BK644.out 0).trans rfl; have hcz6_1 : w5.cell? ⟨gb644, 1, none⟩ = some (.int .i64 a0_1) := (bc BK644.out 1).trans rfl; have hcz6_2 : w5.cell? ⟨gb644, 2, none⟩ = some (.int .i64 a0_2) := (bc BK644.out 2).trans rfl; have hcz6_3 : w5.cell? ⟨gb644, 3, none⟩ = some (.string a0_3) := (bc BK644.out 3).trans rfl; have hfz6_0 := bf BK644.out 0; have hfz6_1 := bf BK644.out 1; have hfz6_2 := bf BK644.out 2; have hfz6_3 := bf BK644.out 3) | (go_at_call 11; (with_reducible refine (batch_Events.calls k a0_0 a0_1 a0_2 a0_3 t645 t648 t651 t652 _ A3.out).mono ?_); rintro e w7 ⟨v646, v649, rfl, ho0, ho1, hb⟩; have n0_ := Am (Kd.S_lower ho0 (below_size (by repeat (first | (with_reducible first | exact HB.out | apply bl | apply pN | apply b1 | refine bs ?_ GE644.out) | exact HB.out | exact HBo.out)))); have n1_ := Am (Kd.R_lower ho1 (below_size (by repeat (first | (with_reducible first | exact HB.out | apply bl | apply pN | apply b1 | refine bs ?_ GE644.out) | exact HB.out | exact HBo.out)))); have n2_ := Am (blk_below (g := gb644) (o := .cells #[.int .i64 a0_0, .int .i64 a0_1, .int .i64 a0_2, .string a0_3] 23 (0, 0)) (by (with_reducible repeat (first | refine bn ?_ _ | refine bd ?_ | refine ba ?_ _)); exact BK644.out) hb); have n3_ := Am (below_step (by repeat (first | (with_reducible first | exact HB.out | apply bl | apply pN | apply b1 | refine bs ?_ GE644.out) | exact HB.out | exact HBo.out)) hb); clear BK644; clear HB; have HO647 := n0_; have HO650 := n1_; have BK644 := n2_; have HB := n3_; clear n0_ n1_ n2_ n3_; (try clear hb); (try clear hb2); (try clear hk); (try clear hi); (try clear ho0); (try clear ho1); have hcz8_0 : w7.cell? ⟨gb644, 0, none⟩ = some (.int .i64 a0_0) := (bc BK644.out 0).trans rfl; have hcz8_1 : w7.cell? ⟨gb644, 1, none⟩ = some (.int .i64 a0_1) := (bc BK644.out 1).trans rfl; have hcz8_2 : w7.cell? ⟨gb644, 2, none⟩ = some (.int .i64 a0_2) := (bc BK644.out 2).trans rfl; have hcz8_3 : w7.cell? ⟨gb644, 3, none⟩ = some (.string a0_3) := (bc BK644.out 3).trans rfl; have hfz8_0 := bf BK644.out 0; have hfz8_1 := bf BK644.out 1; have hfz8_2 := bf BK644.out 2; have hfz8_3 := bf BK644.out 3) | ((with_reducible refine gate_dst (N := 9) rfl ?_); (try (refine gate_guard (by rfl) ?_; dsimp only)); refine box_event ?hg (N := 9) ?hd (cs := #[.int .i64 0, .int .i64 0, .int .i64 0, .string (⟨#[]⟩ : ByteArray)]) (t := 23) ?hr ?_; (case hd => rfl); (case hg => rfl); (case hr => first | (go_simp; done) | (go_simp; rfl)); intro gb653 hg w9 hbox hb; have n0_ := Am (Kd.S_below (by (with_reducible repeat (first | apply Kd.S_alloc | apply Kd.S_drewN | apply Kd.S_drew)); exact HO647.out) hb); have n1_ := Am (Kd.R_below (by (with_reducible repeat (first | apply Kd.R_alloc | apply Kd.R_drewN | apply Kd.R_drew)); exact HO650.out) hb); have n2_ := Am (blk_below (g := gb644) (o := .cells #[.int .i64 a0_0, .int .i64 a0_1, .int .i64 a0_2, .string a0_3] 23 (0, 0)) (by (with_reducible repeat (first | refine bn ?_ _ | refine bd ?_ | refine ba ?_ _)); exact BK644.out) hb); have n3_ := Am (below_step (by repeat (first | (with_reducible first | exact HB.out | apply bl | apply pN | apply b1 | refine bs ?_ GE644.out) | exact HB.out | exact HBo.out)) hb); have n4_ := Am (hbox); have n5_ := Am ((by rw [hg]; exact (below_size (by repeat (first | (with_reducible first | exact HB.out | apply bl | apply pN | apply b1 | refine bs ?_ GE644.out) | exact HB.out | exact HBo.out))) : w.heap.size ≤ gb653)); have n6_ := Am ((by rw [hg]; exact (below_size (by repeat (first | (with_reducible first | exact HB.out | apply bl | apply pN | apply b1 | refine bs ?_ GE644.out) | exact HB.out | exact HBo.out))) : w.heap.size ≤ gb653)); have n7_ := Am ((by rw [hg]; exact Nat.ne_of_lt (blk_lt (g := gb644) (o := .cells #[.int .i64 a0_0, .int .i64 a0_1, .int .i64 a0_2, .string a0_3] 23 (0, 0)) (by (with_reducible repeat (first | refine bn ?_ _ | refine bd ?_ | refine ba ?_ _)); exact BK644.out)) : gb644 ≠ gb653)); have n8_ := Am ((by rw [hg]; exact Nat.ne_of_gt (blk_lt (g := gb644) (o := .cells #[.int .i64 a0_0, .int .i64 a0_1, .int .i64 a0_2, .string a0_3] 23 (0, 0)) (by (with_reducible repeat (first | refine bn ?_ _ | refine bd ?_ | refine ba ?_ _)); exact BK644.out)) : gb653 ≠ gb644)); clear HO647; clear HO650; clear BK644; clear HB; have HO647 := n0_; have HO650 := n1_; have BK644 := n2_; have HB := n3_; have BK653 := n4_; have GW653 := n5_; have GE653 := n6_; have NB644_653 := n7_; have NB653_644 := n8_; clear n0_ n1_ n2_ n3_ n4_ n5_ n6_ n7_ n8_; clear hb hbox hg; have hnb10 := NB653_644.out; have hnc10 := NB644_653.out; have hcz11_0 : w9.cell? ⟨gb653, 0, none⟩ = some (.int .i64 0) := (bc BK653.out 0).trans rfl; have hcz11_1 : w9.cell? ⟨gb653, 1, none⟩ = some (.int .i64 0) := (bc BK653.out 1).trans rfl; have hcz11_2 : w9.cell? ⟨gb653, 2, none⟩ = some (.int .i64 0) := (bc BK653.out 2).trans rfl; have hcz11_3 : w9.cell? ⟨gb653, 3, none⟩ = some (.string (⟨#[]⟩ : ByteArray)) := (bc BK653.out 3).trans rfl; have hfz11_0 := bf BK653.out 0; have hfz11_1 := bf BK653.out 1; have hfz11_2 := bf BK653.out 2; have hfz11_3 := bf BK653.out 3))
 repeat (go_quiet (first | ((with_reducible refine gate_dst (N := 2) rfl ?_); (try (refine gate_guard (by rfl) ?_; dsimp only)); refine box_event ?hg (N := 2) ?hd (cs := #[.int .i64 a0_0, .int .i64 a0_1, .int .i64 a0_2, .string a0_3]) (t := 23) ?hr ?_; (case hd => rfl); (case hg => rfl); (case hr => first | (go_simp; done) | (go_simp; rfl)); intro gb644 hg w5 hbox hb; have n0_ := Am (below_step (by repeat (first | (with_reducible first | exact HB.out | apply bl | apply pN | apply b1) | exact HB.out | exact HBo.out)) hb); have n1_ := Am (hbox); have n2_ := Am ((by rw [hg]; exact (below_size (by repeat (first | (with_reducible first | exact HB.out | apply bl | apply pN | apply b1) | exact HB.out | exact HBo.out))) : w.heap.size ≤ gb644)); have n3_ := Am ((by rw [hg]; exact (below_size (by repeat (first | (with_reducible first | exact HB.out | apply bl | apply pN | apply b1) | exact HB.out | exact HBo.out))) : w.heap.size ≤ gb644)); clear HB; have HB := n0_; have BK644 := n1_; have GW644 := n2_; have GE644 := n3_; clear n0_ n1_ n2_ n3_; clear hb hbox hg; have hcz6_0 : w5.cell? ⟨gb644, 0, none⟩ = some (.int .i64 a0_0) := (bc BK644.out 0).trans rfl; have hcz6_1 : w5.cell? ⟨gb644, 1, none⟩ = some (.int .i64 a0_1) := (bc BK644.out 1).trans rfl; have hcz6_2 : w5.cell? ⟨gb644, 2, none⟩ = some (.int .i64 a0_2) := (bc BK644.out 2).trans rfl; have hcz6_3 : w5.cell? ⟨gb644, 3, none⟩ = some (.string a0_3) := (bc BK644.out 3).trans rfl; have hfz6_0 := bf BK644.out 0; have hfz6_1 := bf BK644.out 1; have hfz6_2 := bf BK644.out 2; have hfz6_3 := bf BK644.out 3) | (go_at_call 11; (with_reducible refine (batch_Events.calls k a0_0 a0_1 a0_2 a0_3 t645 t648 t651 t652 _ A3.out).mono ?_); rintro e w7 ⟨v646, v649, rfl, ho0, ho1, hb⟩; have n0_ := Am (Kd.S_lower ho0 (below_size (by repeat (first | (with_reducible first | exact HB.out | apply bl | apply pN | apply b1 | refine bs ?_ GE644.out) | exact HB.out | exact HBo.out)))); have n1_ := Am (Kd.R_lower ho1 (below_size (by repeat (first | (with_reducible first | exact HB.out | apply bl | apply pN | apply b1 | refine bs ?_ GE644.out) | exact HB.out | exact HBo.out)))); have n2_ := Am (blk_below (g := gb644) (o := .cells #[.int .i64 a0_0, .int .i64 a0_1, .int .i64 a0_2, .string a0_3] 23 (0, 0)) (by (with_reducible repeat (first | refine bn ?_ _ | refine bd ?_ | refine ba ?_ _)); exact BK644.out) hb); have n3_ := Am (below_step (by repeat (first | (with_reducible first | exact HB.out | apply bl | apply pN | apply b1 | refine bs ?_ GE644.out) | exact HB.out | exact HBo.out)) hb); clear BK644; clear HB; have HO647 := n0_; have HO650 := n1_; have BK644 := n2_; have HB := n3_; clear n0_ n1_ n2_ n3_; (try clear hb); (try clear hb2); (try clear hk); (try clear hi); (try clear ho0); (try clear ho1); have hcz8_0 : w7.cell? ⟨gb644, 0, none⟩ = some (.int .i64 a0_0) := (bc BK644.out 0).trans rfl; have hcz8_1 : w7.cell? ⟨gb644, 1, none⟩ = some (.int .i64 a0_1) := (bc BK644.out 1).trans rfl; have hcz8_2 : w7.cell? ⟨gb644, 2, none⟩ = some (.int .i64 a0_2) := (bc BK644.out 2).trans rfl; have hcz8_3 : w7.cell? ⟨gb644, 3, none⟩ = some (.string a0_3) := (bc BK644.out 3).trans rfl; have hfz8_0 := bf BK644.out 0; have hfz8_1 := bf BK644.out 1; have hfz8_2 := bf BK644.out 2; have hfz8_3 := bf BK644.out 3) | ((with_reducible refine gate_dst (N := 9) rfl ?_); (try (refine gate_guard (by rfl) ?_; dsimp only)); refine box_event ?hg (N := 9) ?hd (cs := #[.int .i64 0, .int .i64 0, .int .i64 0, .string (⟨#[]⟩ : ByteArray)]) (t := 23) ?hr ?_; (case hd => rfl); (case hg => rfl); (case hr => first | (go_simp; done) | (go_simp; rfl)); intro gb653 hg w9 hbox hb; have n0_ := Am (Kd.S_below (by (with_reducible repeat (first | apply Kd.S_alloc | apply Kd.S_drewN | apply Kd.S_drew)); exact HO647.out) hb); have n1_ := Am (Kd.R_below (by (with_reducible repeat (first | apply Kd.R_alloc | apply Kd.R_drewN | apply Kd.R_drew)); exact HO650.out) hb); have n2_ := Am (blk_below (g := gb644) (o := .cells #[.int .i64 a0_0, .int .i64 a0_1, .int .i64 a0_2, .string a0_3] 23 (0, 0)) (by (with_reducible repeat (first | refine bn ?_ _ | refine bd ?_ | refine ba ?_ _)); exact BK644.out) hb); have n3_ := Am (below_step (by repeat (first | (with_reducible first | exact HB.out | apply bl | apply pN | apply b1 | refine bs ?_ GE644.out) | exact HB.out | exact HBo.out)) hb); have n4_ := Am (hbox); have n5_ := Am ((by rw [hg]; exact (below_size (by repeat (first | (with_reducible first | exact HB.out | apply bl | apply pN | apply b1 | refine bs ?_ GE644.out) | exact HB.out | exact HBo.out))) : w.heap.size ≤ gb653)); have n6_ := Am ((by rw [hg]; exact (below_size (by repeat (first | (with_reducible first | exact HB.out | apply bl | apply pN | apply b1 | refine bs ?_ GE644.out) | exact HB.out | exact HBo.out))) : w.heap.size ≤ gb653)); have n7_ := Am ((by rw [hg]; exact Nat.ne_of_lt (blk_lt (g := gb644) (o := .cells #[.int .i64 a0_0, .int .i64 a0_1, .int .i64 a0_2, .string a0_3] 23 (0, 0)) (by (with_reducible repeat (first | refine bn ?_ _ | refine bd ?_ | refine ba ?_ _)); exact BK644.out)) : gb644 ≠ gb653)); have n8_ := Am ((by rw [hg]; exact Nat.ne_of_gt (blk_lt (g := gb644) (o := .cells #[.int .i64 a0_0, .int .i64 a0_1, .int .i64 a0_2, .string a0_3] 23 (0, 0)) (by (with_reducible repeat (first | refine bn ?_ _ | refine bd ?_ | refine ba ?_ _)); exact BK644.out)) : gb653 ≠ gb644)); clear HO647; clear HO650; clear BK644; clear HB; have HO647 := n0_; have HO650 := n1_; have BK644 := n2_; have HB := n3_; have BK653 := n4_; have GW653 := n5_; have GE653 := n6_; have NB644_653 := n7_; have NB653_644 := n8_; clear n0_ n1_ n2_ n3_ n4_ n5_ n6_ n7_ n8_; clear hb hbox hg; have hnb10 := NB653_644.out; have hnc10 := NB644_653.out; have hcz11_0 : w9.cell? ⟨gb653, 0, none⟩ = some (.int .i64 0) := (bc BK653.out 0).trans rfl; have hcz11_1 : w9.cell? ⟨gb653, 1, none⟩ = some (.int .i64 0) := (bc BK653.out 1).trans rfl; have hcz11_2 : w9.cell? ⟨gb653, 2, none⟩ = some (.int .i64 0) := (bc BK653.out 2).trans rfl; have hcz11_3 : w9.cell? ⟨gb653, 3, none⟩ = some (.string (⟨#[]⟩ : ByteArray)) := (bc BK653.out 3).trans rfl; have hfz11_0 := bf BK653.out 0; have hfz11_1 := bf BK653.out 1; have hfz11_2 := bf BK653.out 2; have hfz11_3 := bf BK653.out 3)); go_upto_region 4 with (first | ((with_reducible refine gate_dst (N := 2) rfl ?_); (try (refine gate_guard (by rfl) ?_; dsimp only)); refine box_event ?hg (N := 2) ?hd (cs := #[.int .i64 a0_0, .int .i64 a0_1, .int .i64 a0_2, .string a0_3]) (t := 23) ?hr ?_; (case hd => rfl); (case hg => rfl); (case hr => first | (go_simp; done) | (go_simp; rfl)); intro gb644 hg w5 hbox hb; have n0_ := Am (below_step (by repeat (first | (with_reducible first | exact HB.out | apply bl | apply pN | apply b1) | exact HB.out | exact HBo.out)) hb); have n1_ := Am (hbox); have n2_ := Am ((by rw [hg]; exact (below_size (by repeat (first | (with_reducible first | exact HB.out | apply bl | apply pN | apply b1) | exact HB.out | exact HBo.out))) : w.heap.size ≤ gb644)); have n3_ := Am ((by rw [hg]; exact (below_size (by repeat (first | (with_reducible first | exact HB.out | apply bl | apply pN | apply b1) | exact HB.out | exact HBo.out))) : w.heap.size ≤ gb644)); clear HB; have HB := n0_; have BK644 := n1_; have GW644 := n2_; have GE644 := n3_; clear n0_ n1_ n2_ n3_; clear hb hbox hg; have hcz6_0 : w5.cell? ⟨gb644, 0, none⟩ = some (.int .i64 a0_0) := (bc BK644.out 0).trans rfl; have hcz6_1 : w5.cell? ⟨gb644, 1, none⟩ = some (.int .i64 a0_1) := (bc BK644.out 1).trans rfl; have hcz6_2 : w5.cell? ⟨gb644, 2, none⟩ = some (.int .i64 a0_2) := (bc BK644.out 2).trans rfl; have hcz6_3 : w5.cell? ⟨gb644, 3, none⟩ = some (.string a0_3) := (bc BK644.out 3).trans rfl; have hfz6_0 := bf BK644.out 0; have hfz6_1 := bf BK644.out 1; have hfz6_2 := bf BK644.out 2; have hfz6_3 := bf BK644.out 3) | (go_at_call 11; (with_reducible refine (batch_Events.calls k a0_0 a0_1 a0_2 a0_3 t645 t648 t651 t652 _ A3.out).mono ?_); rintro e w7 ⟨v646, v649, rfl, ho0, ho1, hb⟩; have n0_ := Am (Kd.S_lower ho0 (below_size (by repeat (first | (with_reducible first | exact HB.out | apply bl | apply pN | apply b1 | refine bs ?_ GE644.out) | exact HB.out | exact HBo.out)))); have n1_ := Am (Kd.R_lower ho1 (below_size (by repeat (first | (with_reducible first | exact HB.out | apply bl | apply pN | apply b1 | refine bs ?_ GE644.out) | exact HB.out | exact HBo.out)))); have n2_ := Am (blk_below (g := gb644) (o := .cells #[.int .i64 a0_0, .int .i64 a0_1, .int .i64 a0_2, .string a0_3] 23 (0, 0)) (by (with_reducible repeat (first | refine bn ?_ _ | refine bd ?_ | refine ba ?_ _)); exact BK644.out) hb); have n3_ := Am (below_step (by repeat (first | (with_reducible first | exact HB.out | apply bl | apply pN | apply b1 | refine bs ?_ GE644.out) | exact HB.out | exact HBo.out)) hb); clear BK644; clear HB; have HO647 := n0_; have HO650 := n1_; have BK644 := n2_; have HB := n3_; clear n0_ n1_ n2_ n3_; (try clear hb); (try clear hb2); (try clear hk); (try clear hi); (try clear ho0); (try clear ho1); have hcz8_0 : w7.cell? ⟨gb644, 0, none⟩ = some (.int .i64 a0_0) := (bc BK644.out 0).trans rfl; have hcz8_1 : w7.cell? ⟨gb644, 1, none⟩ = some (.int .i64 a0_1) := (bc BK644.out 1).trans rfl; have hcz8_2 : w7.cell? ⟨gb644, 2, none⟩ = some (.int .i64 a0_2) := (bc BK644.out 2).trans rfl; have hcz8_3 : w7.cell? ⟨gb644, 3, none⟩ = some (.string a0_3) := (bc BK644.out 3).trans rfl; have hfz8_0 := bf BK644.out 0; have hfz8_1 := bf BK644.out 1; have hfz8_2 := bf BK644.out 2; have hfz8_3 := bf BK644.out 3) | ((with_reducible refine gate_dst (N := 9) rfl ?_); (try (refine gate_guard (by rfl) ?_; dsimp only)); refine box_event ?hg (N := 9) ?hd (cs := #[.int .i64 0, .int .i64 0, .int .i64 0, .string (⟨#[]⟩ : ByteArray)]) (t := 23) ?hr ?_; (case hd => rfl); (case hg => rfl); (case hr => first | (go_simp; done) | (go_simp; rfl)); intro gb653 hg w9 hbox hb; have n0_ := Am (Kd.S_below (by (with_reducible repeat (first | apply Kd.S_alloc | apply Kd.S_drewN | apply Kd.S_drew)); exact HO647.out) hb); have n1_ := Am (Kd.R_below (by (with_reducible repeat (first | apply Kd.R_alloc | apply Kd.R_drewN | apply Kd.R_drew)); exact HO650.out) hb); have n2_ := Am (blk_below (g := gb644) (o := .cells #[.int .i64 a0_0, .int .i64 a0_1, .int .i64 a0_2, .string a0_3] 23 (0, 0)) (by (with_reducible repeat (first | refine bn ?_ _ | refine bd ?_ | refine ba ?_ _)); exact BK644.out) hb); have n3_ := Am (below_step (by repeat (first | (with_reducible first | exact HB.out | apply bl | apply pN | apply b1 | refine bs ?_ GE644.out) | exact HB.out | exact HBo.out)) hb); have n4_ := Am (hbox); have n5_ := Am ((by rw [hg]; exact (below_size (by repeat (first | (with_reducible first | exact HB.out | apply bl | apply pN | apply b1 | refine bs ?_ GE644.out) | exact HB.out | exact HBo.out))) : w.heap.size ≤ gb653)); have n6_ := Am ((by rw [hg]; exact (below_size (by repeat (first | (with_reducible first | exact HB.out | apply bl | apply pN | apply b1 | refine bs ?_ GE644.out) | exact HB.out | exact HBo.out))) : w.heap.size ≤ gb653)); have n7_ := Am ((by rw [hg]; exact Nat.ne_of_lt (blk_lt (g := gb644) (o := .cells #[.int .i64 a0_0, .int .i64 a0_1, .int .i64 a0_2, .string a0_3] 23 (0, 0)) (by (with_reducible repeat (first | refine bn ?_ _ | refine bd ?_ | refine ba ?_ _)); exact BK644.out)) : gb644 ≠ gb653)); have n8_ := Am ((by rw [hg]; exact Nat.ne_of_gt (blk_lt (g := gb644) (o := .cells #[.int .i64 a0_0, .int .i64 a0_1, .int .i64 a0_2, .string a0_3] 23 (0, 0)) (by (with_reducible repeat (first | refine bn ?_ _ | refine bd ?_ | refine ba ?_ _)); exact BK644.out)) : gb653 ≠ gb644)); clear HO647; clear HO650; clear BK644; clear HB; have HO647 := n0_; have HO650 := n1_; have BK644 := n2_; have HB := n3_; have BK653 := n4_; have GW653 := n5_; have GE653 := n6_; have NB644_653 := n7_; have NB653_644 := n8_; clear n0_ n1_ n2_ n3_ n4_ n5_ n6_ n7_ n8_; clear hb hbox hg; have hnb10 := NB653_644.out; have hnc10 := NB644_653.out; have hcz11_0 : w9.cell? ⟨gb653, 0, none⟩ = some (.int .i64 0) := (bc BK653.out 0).trans rfl; have hcz11_1 : w9.cell? ⟨gb653, 1, none⟩ = some (.int .i64 0) := (bc BK653.out 1).trans rfl; have hcz11_2 : w9.cell? ⟨gb653, 2, none⟩ = some (.int .i64 0) := (bc BK653.out 2).trans rfl; have hcz11_3 : w9.cell? ⟨gb653, 3, none⟩ = some (.string (⟨#[]⟩ : ByteArray)) := (bc BK653.out 3).trans rfl; have hfz11_0 := bf BK653.out 0; have hfz11_1 := bf BK653.out 1; have hfz11_2 := bf BK653.out 2; have hfz11_3 := bf BK653.out 3)))
 (try simp only [Act.put, sI, sZ, sS])
 go_cut [41] (fun v41 wc => ∃ (kq : Nat) (x41_3 : Bool), v41 = .bool x41_3 ∧ Aside0 (shuttlecocklaw05_BatchBase.j0 kq a1 t645 t648 x41_3 a0_0 a0_1 a0_2 a0_3 a0_0 a0_1 a1 a0_3 = some r) ∧ Aside0 (kq ≤ k) ∧ Aside0 (Kd.S k41 41 wc w.heap.size (fun k_ => some k_ ≠ (v649 : Value).ownBlock) v646 t645) ∧ Aside0 (Kd.R (Kd.int .i64) 3 wc w.heap.size (fun _ => True) v649 t648) ∧ Aside0 (wc.heap[gb644]? = some (.cells #[.int .i64 a0_0, .int .i64 a0_1, .int .i64 a0_2, .string a0_3] 23 (0, 0))) ∧ Aside0 (wc.heap[gb653]? = some (.cells #[.int .i64 a0_0, .int .i64 a0_1, .int .i64 a1, .string a0_3] 23 (0, 0))) ∧ Aside0 (Below w.heap.size w wc))
 case first =>
  have H := HC4.out
  clear HC4
  replace H := ob H
  obtain ⟨t654, A120, H⟩ := H
  replace H : (if t654 = true then (if (a0_3.size : Int) > 3000 then (shuttlecocklaw05_BatchBase.j0 k a1 t645 t648 true a0_0 a0_1 a0_2 a0_3 a0_0 a0_1 a1 a0_3) else (if t652 = 0 then ((batch_May.f a0_0 a0_1 a1 a0_3).bind fun t655 => (shuttlecocklaw05_BatchBase.j0 k a1 t645 t648 (!t655) a0_0 a0_1 a0_2 a0_3 a0_0 a0_1 a1 a0_3)) else (shuttlecocklaw05_BatchBase.j0 k a1 t645 t648 true a0_0 a0_1 a0_2 a0_3 a0_0 a0_1 a1 a0_3))) else (shuttlecocklaw05_BatchBase.j0 k a1 t645 t648 true a0_0 a0_1 a0_2 a0_3 a0_0 a0_1 a1 a0_3)) = some r := H
  have A12 := Am A120
  clear A120
  by_cases c13 : t654 = true
  ·
   subst c13
   have H1 : (if (a0_3.size : Int) > 3000 then (shuttlecocklaw05_BatchBase.j0 k a1 t645 t648 true a0_0 a0_1 a0_2 a0_3 a0_0 a0_1 a1 a0_3) else (if t652 = 0 then ((batch_May.f a0_0 a0_1 a1 a0_3).bind fun t655 => (shuttlecocklaw05_BatchBase.j0 k a1 t645 t648 (!t655) a0_0 a0_1 a0_2 a0_3 a0_0 a0_1 a1 a0_3)) else (shuttlecocklaw05_BatchBase.j0 k a1 t645 t648 true a0_0 a0_1 a0_2 a0_3 a0_0 a0_1 a1 a0_3))) = some r := by rw [if_pos rfl] at H; exact H
   clear H
   have H := H1
   clear H1
   by_cases c14 : (a0_3.size : Int) > 3000
   ·
    rw [if_pos c14] at H
    have c14b0 : decide (3000 < (a0_3.size : Int)) = true := decide_eq_true c14
    have c14b1 : decide (3000 < a0_3.size) = true := decide_eq_true (by omega)
    clear c14
    (first | rw [c14b0] | (simp only [i64_w, i32_w]; rw [c14b0]) | skip)
    have H' := Am H
    clear H
    go_wp2_with (first | (go_at_call 8; (with_reducible refine (shuttlecocklaw05_fixed.calls k  true _ A12.out).mono ?_); rintro e w15 ⟨rfl, hb⟩; have n0_ := Am (Kd.S_below (by (with_reducible repeat (first | apply Kd.S_alloc | apply Kd.S_drewN | apply Kd.S_drew)); exact (Kd.S_mono (Kd.S_far (p := ⟨gb653, 2, none⟩) (Kd.S_far (p := ⟨gb653, 3, none⟩) (Kd.S_far (p := ⟨gb653, 2, none⟩) (Kd.S_far (p := ⟨gb653, 1, none⟩) (Kd.S_far (p := ⟨gb653, 0, none⟩) (Kd.S_types HO647.out BK653.out (by decide)) (fun _ hk => hk.2) (.int .i64 a0_0)) (fun _ hk => hk.2) (.int .i64 a0_1)) (fun _ hk => hk.2) (.int .i64 a0_2)) (fun _ hk => hk.2) (.string a0_3)) (fun _ hk => hk.2) (.int .i64 a1)) (fun _ h_ => h_.1))) hb); have n1_ := Am (Kd.R_below (by (with_reducible repeat (first | apply Kd.R_alloc | apply Kd.R_drewN | apply Kd.R_drew)); exact (Kd.R_mono (Kd.R_far (p := ⟨gb653, 2, none⟩) (Kd.R_far (p := ⟨gb653, 3, none⟩) (Kd.R_far (p := ⟨gb653, 2, none⟩) (Kd.R_far (p := ⟨gb653, 1, none⟩) (Kd.R_far (p := ⟨gb653, 0, none⟩) (Kd.R_types HO650.out BK653.out (by decide)) (fun _ hk => hk.2) (.int .i64 a0_0)) (fun _ hk => hk.2) (.int .i64 a0_1)) (fun _ hk => hk.2) (.int .i64 a0_2)) (fun _ hk => hk.2) (.string a0_3)) (fun _ hk => hk.2) (.int .i64 a1)) (fun _ h_ => h_.1))) hb); have n2_ := Am (blk_below (g := gb644) (o := .cells #[.int .i64 a0_0, .int .i64 a0_1, .int .i64 a0_2, .string a0_3] 23 (0, 0)) (by (with_reducible repeat (first | refine bn ?_ _ | refine bd ?_ | refine ba ?_ _)); refine blk_far ?_ NB644_653.out _; (with_reducible repeat (first | refine bn ?_ _ | refine bd ?_ | refine ba ?_ _)); refine blk_far ?_ NB644_653.out _; (with_reducible repeat (first | refine bn ?_ _ | refine bd ?_ | refine ba ?_ _)); refine blk_far ?_ NB644_653.out _; (with_reducible repeat (first | refine bn ?_ _ | refine bd ?_ | refine ba ?_ _)); refine blk_far ?_ NB644_653.out _; (with_reducible repeat (first | refine bn ?_ _ | refine bd ?_ | refine ba ?_ _)); refine blk_far ?_ NB644_653.out _; (with_reducible repeat (first | refine bn ?_ _ | refine bd ?_ | refine ba ?_ _)); exact BK644.out) hb); have n3_ := Am (blk_below (g := gb653) (o := .cells #[.int .i64 a0_0, .int .i64 a0_1, .int .i64 a1, .string a0_3] 23 (0, 0)) (by (with_reducible repeat (first | refine bn ?_ _ | refine bd ?_ | refine ba ?_ _)); refine blk_put (cs := #[.int .i64 a0_0, .int .i64 a0_1, .int .i64 a0_2, .string a0_3]) ?_ 2 _ rfl; (with_reducible repeat (first | refine bn ?_ _ | refine bd ?_ | refine ba ?_ _)); refine blk_put (cs := #[.int .i64 a0_0, .int .i64 a0_1, .int .i64 a0_2, .string (⟨#[]⟩ : ByteArray)]) ?_ 3 _ rfl; (with_reducible repeat (first | refine bn ?_ _ | refine bd ?_ | refine ba ?_ _)); refine blk_put (cs := #[.int .i64 a0_0, .int .i64 a0_1, .int .i64 0, .string (⟨#[]⟩ : ByteArray)]) ?_ 2 _ rfl; (with_reducible repeat (first | refine bn ?_ _ | refine bd ?_ | refine ba ?_ _)); refine blk_put (cs := #[.int .i64 a0_0, .int .i64 0, .int .i64 0, .string (⟨#[]⟩ : ByteArray)]) ?_ 1 _ rfl; (with_reducible repeat (first | refine bn ?_ _ | refine bd ?_ | refine ba ?_ _)); refine blk_put (cs := #[.int .i64 0, .int .i64 0, .int .i64 0, .string (⟨#[]⟩ : ByteArray)]) ?_ 0 _ rfl; (with_reducible repeat (first | refine bn ?_ _ | refine bd ?_ | refine ba ?_ _)); exact BK653.out) hb); have n4_ := Am (below_step (by repeat (first | (with_reducible first | exact HB.out | apply bl | apply pN | apply b1 | refine bs ?_ GE644.out | refine bs ?_ GE653.out) | exact HB.out | exact HBo.out)) hb); clear HO647; clear HO650; clear BK644; clear BK653; clear HB; have HO647 := n0_; have HO650 := n1_; have BK644 := n2_; have BK653 := n3_; have HB := n4_; clear n0_ n1_ n2_ n3_ n4_; (try clear hb); (try clear hb2); (try clear hk); (try clear hi); have hnb16 := NB644_653.out; have hnc16 := NB653_644.out; have hcz17_0 : w15.cell? ⟨gb644, 0, none⟩ = some (.int .i64 a0_0) := (bc BK644.out 0).trans rfl; have hcz17_1 : w15.cell? ⟨gb644, 1, none⟩ = some (.int .i64 a0_1) := (bc BK644.out 1).trans rfl; have hcz17_2 : w15.cell? ⟨gb644, 2, none⟩ = some (.int .i64 a0_2) := (bc BK644.out 2).trans rfl; have hcz17_3 : w15.cell? ⟨gb644, 3, none⟩ = some (.string a0_3) := (bc BK644.out 3).trans rfl; have hfz17_0 := bf BK644.out 0; have hfz17_1 := bf BK644.out 1; have hfz17_2 := bf BK644.out 2; have hfz17_3 := bf BK644.out 3))
    repeat (go_quiet (first | (go_at_call 8; (with_reducible refine (shuttlecocklaw05_fixed.calls k  true _ A12.out).mono ?_); rintro e w15 ⟨rfl, hb⟩; have n0_ := Am (Kd.S_below (by (with_reducible repeat (first | apply Kd.S_alloc | apply Kd.S_drewN | apply Kd.S_drew)); exact (Kd.S_mono (Kd.S_far (p := ⟨gb653, 2, none⟩) (Kd.S_far (p := ⟨gb653, 3, none⟩) (Kd.S_far (p := ⟨gb653, 2, none⟩) (Kd.S_far (p := ⟨gb653, 1, none⟩) (Kd.S_far (p := ⟨gb653, 0, none⟩) (Kd.S_types HO647.out BK653.out (by decide)) (fun _ hk => hk.2) (.int .i64 a0_0)) (fun _ hk => hk.2) (.int .i64 a0_1)) (fun _ hk => hk.2) (.int .i64 a0_2)) (fun _ hk => hk.2) (.string a0_3)) (fun _ hk => hk.2) (.int .i64 a1)) (fun _ h_ => h_.1))) hb); have n1_ := Am (Kd.R_below (by (with_reducible repeat (first | apply Kd.R_alloc | apply Kd.R_drewN | apply Kd.R_drew)); exact (Kd.R_mono (Kd.R_far (p := ⟨gb653, 2, none⟩) (Kd.R_far (p := ⟨gb653, 3, none⟩) (Kd.R_far (p := ⟨gb653, 2, none⟩) (Kd.R_far (p := ⟨gb653, 1, none⟩) (Kd.R_far (p := ⟨gb653, 0, none⟩) (Kd.R_types HO650.out BK653.out (by decide)) (fun _ hk => hk.2) (.int .i64 a0_0)) (fun _ hk => hk.2) (.int .i64 a0_1)) (fun _ hk => hk.2) (.int .i64 a0_2)) (fun _ hk => hk.2) (.string a0_3)) (fun _ hk => hk.2) (.int .i64 a1)) (fun _ h_ => h_.1))) hb); have n2_ := Am (blk_below (g := gb644) (o := .cells #[.int .i64 a0_0, .int .i64 a0_1, .int .i64 a0_2, .string a0_3] 23 (0, 0)) (by (with_reducible repeat (first | refine bn ?_ _ | refine bd ?_ | refine ba ?_ _)); refine blk_far ?_ NB644_653.out _; (with_reducible repeat (first | refine bn ?_ _ | refine bd ?_ | refine ba ?_ _)); refine blk_far ?_ NB644_653.out _; (with_reducible repeat (first | refine bn ?_ _ | refine bd ?_ | refine ba ?_ _)); refine blk_far ?_ NB644_653.out _; (with_reducible repeat (first | refine bn ?_ _ | refine bd ?_ | refine ba ?_ _)); refine blk_far ?_ NB644_653.out _; (with_reducible repeat (first | refine bn ?_ _ | refine bd ?_ | refine ba ?_ _)); refine blk_far ?_ NB644_653.out _; (with_reducible repeat (first | refine bn ?_ _ | refine bd ?_ | refine ba ?_ _)); exact BK644.out) hb); have n3_ := Am (blk_below (g := gb653) (o := .cells #[.int .i64 a0_0, .int .i64 a0_1, .int .i64 a1, .string a0_3] 23 (0, 0)) (by (with_reducible repeat (first | refine bn ?_ _ | refine bd ?_ | refine ba ?_ _)); refine blk_put (cs := #[.int .i64 a0_0, .int .i64 a0_1, .int .i64 a0_2, .string a0_3]) ?_ 2 _ rfl; (with_reducible repeat (first | refine bn ?_ _ | refine bd ?_ | refine ba ?_ _)); refine blk_put (cs := #[.int .i64 a0_0, .int .i64 a0_1, .int .i64 a0_2, .string (⟨#[]⟩ : ByteArray)]) ?_ 3 _ rfl; (with_reducible repeat (first | refine bn ?_ _ | refine bd ?_ | refine ba ?_ _)); refine blk_put (cs := #[.int .i64 a0_0, .int .i64 a0_1, .int .i64 0, .string (⟨#[]⟩ : ByteArray)]) ?_ 2 _ rfl; (with_reducible repeat (first | refine bn ?_ _ | refine bd ?_ | refine ba ?_ _)); refine blk_put (cs := #[.int .i64 a0_0, .int .i64 0, .int .i64 0, .string (⟨#[]⟩ : ByteArray)]) ?_ 1 _ rfl; (with_reducible repeat (first | refine bn ?_ _ | refine bd ?_ | refine ba ?_ _)); refine blk_put (cs := #[.int .i64 0, .int .i64 0, .int .i64 0, .string (⟨#[]⟩ : ByteArray)]) ?_ 0 _ rfl; (with_reducible repeat (first | refine bn ?_ _ | refine bd ?_ | refine ba ?_ _)); exact BK653.out) hb); have n4_ := Am (below_step (by repeat (first | (with_reducible first | exact HB.out | apply bl | apply pN | apply b1 | refine bs ?_ GE644.out | refine bs ?_ GE653.out) | exact HB.out | exact HBo.out)) hb); clear HO647; clear HO650; clear BK644; clear BK653; clear HB; have HO647 := n0_; have HO650 := n1_; have BK644 := n2_; have BK653 := n3_; have HB := n4_; clear n0_ n1_ n2_ n3_ n4_; (try clear hb); (try clear hb2); (try clear hk); (try clear hi); have hnb16 := NB644_653.out; have hnc16 := NB653_644.out; have hcz17_0 : w15.cell? ⟨gb644, 0, none⟩ = some (.int .i64 a0_0) := (bc BK644.out 0).trans rfl; have hcz17_1 : w15.cell? ⟨gb644, 1, none⟩ = some (.int .i64 a0_1) := (bc BK644.out 1).trans rfl; have hcz17_2 : w15.cell? ⟨gb644, 2, none⟩ = some (.int .i64 a0_2) := (bc BK644.out 2).trans rfl; have hcz17_3 : w15.cell? ⟨gb644, 3, none⟩ = some (.string a0_3) := (bc BK644.out 3).trans rfl; have hfz17_0 := bf BK644.out 0; have hfz17_1 := bf BK644.out 1; have hfz17_2 := bf BK644.out 2; have hfz17_3 := bf BK644.out 3)); try go_wp2_with (first | (go_at_call 8; (with_reducible refine (shuttlecocklaw05_fixed.calls k  true _ A12.out).mono ?_); rintro e w15 ⟨rfl, hb⟩; have n0_ := Am (Kd.S_below (by (with_reducible repeat (first | apply Kd.S_alloc | apply Kd.S_drewN | apply Kd.S_drew)); exact (Kd.S_mono (Kd.S_far (p := ⟨gb653, 2, none⟩) (Kd.S_far (p := ⟨gb653, 3, none⟩) (Kd.S_far (p := ⟨gb653, 2, none⟩) (Kd.S_far (p := ⟨gb653, 1, none⟩) (Kd.S_far (p := ⟨gb653, 0, none⟩) (Kd.S_types HO647.out BK653.out (by decide)) (fun _ hk => hk.2) (.int .i64 a0_0)) (fun _ hk => hk.2) (.int .i64 a0_1)) (fun _ hk => hk.2) (.int .i64 a0_2)) (fun _ hk => hk.2) (.string a0_3)) (fun _ hk => hk.2) (.int .i64 a1)) (fun _ h_ => h_.1))) hb); have n1_ := Am (Kd.R_below (by (with_reducible repeat (first | apply Kd.R_alloc | apply Kd.R_drewN | apply Kd.R_drew)); exact (Kd.R_mono (Kd.R_far (p := ⟨gb653, 2, none⟩) (Kd.R_far (p := ⟨gb653, 3, none⟩) (Kd.R_far (p := ⟨gb653, 2, none⟩) (Kd.R_far (p := ⟨gb653, 1, none⟩) (Kd.R_far (p := ⟨gb653, 0, none⟩) (Kd.R_types HO650.out BK653.out (by decide)) (fun _ hk => hk.2) (.int .i64 a0_0)) (fun _ hk => hk.2) (.int .i64 a0_1)) (fun _ hk => hk.2) (.int .i64 a0_2)) (fun _ hk => hk.2) (.string a0_3)) (fun _ hk => hk.2) (.int .i64 a1)) (fun _ h_ => h_.1))) hb); have n2_ := Am (blk_below (g := gb644) (o := .cells #[.int .i64 a0_0, .int .i64 a0_1, .int .i64 a0_2, .string a0_3] 23 (0, 0)) (by (with_reducible repeat (first | refine bn ?_ _ | refine bd ?_ | refine ba ?_ _)); refine blk_far ?_ NB644_653.out _; (with_reducible repeat (first | refine bn ?_ _ | refine bd ?_ | refine ba ?_ _)); refine blk_far ?_ NB644_653.out _; (with_reducible repeat (first | refine bn ?_ _ | refine bd ?_ | refine ba ?_ _)); refine blk_far ?_ NB644_653.out _; (with_reducible repeat (first | refine bn ?_ _ | refine bd ?_ | refine ba ?_ _)); refine blk_far ?_ NB644_653.out _; (with_reducible repeat (first | refine bn ?_ _ | refine bd ?_ | refine ba ?_ _)); refine blk_far ?_ NB644_653.out _; (with_reducible repeat (first | refine bn ?_ _ | refine bd ?_ | refine ba ?_ _)); exact BK644.out) hb); have n3_ := Am (blk_below (g := gb653) (o := .cells #[.int .i64 a0_0, .int .i64 a0_1, .int .i64 a1, .string a0_3] 23 (0, 0)) (by (with_reducible repeat (first | refine bn ?_ _ | refine bd ?_ | refine ba ?_ _)); refine blk_put (cs := #[.int .i64 a0_0, .int .i64 a0_1, .int .i64 a0_2, .string a0_3]) ?_ 2 _ rfl; (with_reducible repeat (first | refine bn ?_ _ | refine bd ?_ | refine ba ?_ _)); refine blk_put (cs := #[.int .i64 a0_0, .int .i64 a0_1, .int .i64 a0_2, .string (⟨#[]⟩ : ByteArray)]) ?_ 3 _ rfl; (with_reducible repeat (first | refine bn ?_ _ | refine bd ?_ | refine ba ?_ _)); refine blk_put (cs := #[.int .i64 a0_0, .int .i64 a0_1, .int .i64 0, .string (⟨#[]⟩ : ByteArray)]) ?_ 2 _ rfl; (with_reducible repeat (first | refine bn ?_ _ | refine bd ?_ | refine ba ?_ _)); refine blk_put (cs := #[.int .i64 a0_0, .int .i64 0, .int .i64 0, .string (⟨#[]⟩ : ByteArray)]) ?_ 1 _ rfl; (with_reducible repeat (first | refine bn ?_ _ | refine bd ?_ | refine ba ?_ _)); refine blk_put (cs := #[.int .i64 0, .int .i64 0, .int .i64 0, .string (⟨#[]⟩ : ByteArray)]) ?_ 0 _ rfl; (with_reducible repeat (first | refine bn ?_ _ | refine bd ?_ | refine ba ?_ _)); exact BK653.out) hb); have n4_ := Am (below_step (by repeat (first | (with_reducible first | exact HB.out | apply bl | apply pN | apply b1 | refine bs ?_ GE644.out | refine bs ?_ GE653.out) | exact HB.out | exact HBo.out)) hb); clear HO647; clear HO650; clear BK644; clear BK653; clear HB; have HO647 := n0_; have HO650 := n1_; have BK644 := n2_; have BK653 := n3_; have HB := n4_; clear n0_ n1_ n2_ n3_ n4_; (try clear hb); (try clear hb2); (try clear hk); (try clear hi); have hnb16 := NB644_653.out; have hnc16 := NB653_644.out; have hcz17_0 : w15.cell? ⟨gb644, 0, none⟩ = some (.int .i64 a0_0) := (bc BK644.out 0).trans rfl; have hcz17_1 : w15.cell? ⟨gb644, 1, none⟩ = some (.int .i64 a0_1) := (bc BK644.out 1).trans rfl; have hcz17_2 : w15.cell? ⟨gb644, 2, none⟩ = some (.int .i64 a0_2) := (bc BK644.out 2).trans rfl; have hcz17_3 : w15.cell? ⟨gb644, 3, none⟩ = some (.string a0_3) := (bc BK644.out 3).trans rfl; have hfz17_0 := bf BK644.out 0; have hfz17_1 := bf BK644.out 1; have hfz17_2 := bf BK644.out 2; have hfz17_3 := bf BK644.out 3)))
    go_meet
    case rel => exact ⟨_, (true), (by first | rfl | (simp; done) | (simp [*]; done)), H', ⟨by first | omega | exact Nat.le_refl _⟩, ⟨by (with_reducible repeat (first | apply Kd.S_alloc | apply Kd.S_drewN | apply Kd.S_drew)); exact HO647.out⟩, ⟨by (with_reducible repeat (first | apply Kd.R_alloc | apply Kd.R_drewN | apply Kd.R_drew)); exact HO650.out⟩, ⟨by (with_reducible repeat (first | refine bn ?_ _ | refine bd ?_ | refine ba ?_ _)); exact BK644.out⟩, ⟨by (with_reducible repeat (first | refine bn ?_ _ | refine bd ?_ | refine ba ?_ _)); exact BK653.out⟩, ⟨by repeat (first | (with_reducible first | exact HB.out | apply bl | apply pN | apply b1 | refine bs ?_ GE644.out | refine bs ?_ GE653.out) | exact HB.out | exact HBo.out)⟩⟩
   ·
    rw [if_neg c14] at H
    have c14b0 : decide (3000 < (a0_3.size : Int)) = false := decide_eq_false c14
    have c14b1 : decide (3000 < a0_3.size) = false := decide_eq_false (by omega)
    clear c14
    (first | rw [c14b0] | (simp only [i64_w, i32_w]; rw [c14b0]) | skip)
    by_cases c18 : t652 = 0
    ·
     rw [if_pos c18] at H
     have c18b0 : (t652 == 0) = true := beq_iff_eq.mpr c18
     have c18b1 : (t652 != 0) = false := bne_eq_false_iff_eq.mpr c18
     clear c18
     replace H := ob H
     obtain ⟨t655, A190, H⟩ := H
     replace H : (shuttlecocklaw05_BatchBase.j0 k a1 t645 t648 (!t655) a0_0 a0_1 a0_2 a0_3 a0_0 a0_1 a1 a0_3) = some r := H
     have A19 := Am A190
     clear A190
     have H' := Am H
     clear H
     go_wp2_with (first | (go_at_call 8; (with_reducible refine (shuttlecocklaw05_fixed.calls k  true _ A12.out).mono ?_); rintro e w20 ⟨rfl, hb⟩; have n0_ := Am (Kd.S_below (by (with_reducible repeat (first | apply Kd.S_alloc | apply Kd.S_drewN | apply Kd.S_drew)); exact (Kd.S_mono (Kd.S_far (p := ⟨gb653, 2, none⟩) (Kd.S_far (p := ⟨gb653, 3, none⟩) (Kd.S_far (p := ⟨gb653, 2, none⟩) (Kd.S_far (p := ⟨gb653, 1, none⟩) (Kd.S_far (p := ⟨gb653, 0, none⟩) (Kd.S_types HO647.out BK653.out (by decide)) (fun _ hk => hk.2) (.int .i64 a0_0)) (fun _ hk => hk.2) (.int .i64 a0_1)) (fun _ hk => hk.2) (.int .i64 a0_2)) (fun _ hk => hk.2) (.string a0_3)) (fun _ hk => hk.2) (.int .i64 a1)) (fun _ h_ => h_.1))) hb); have n1_ := Am (Kd.R_below (by (with_reducible repeat (first | apply Kd.R_alloc | apply Kd.R_drewN | apply Kd.R_drew)); exact (Kd.R_mono (Kd.R_far (p := ⟨gb653, 2, none⟩) (Kd.R_far (p := ⟨gb653, 3, none⟩) (Kd.R_far (p := ⟨gb653, 2, none⟩) (Kd.R_far (p := ⟨gb653, 1, none⟩) (Kd.R_far (p := ⟨gb653, 0, none⟩) (Kd.R_types HO650.out BK653.out (by decide)) (fun _ hk => hk.2) (.int .i64 a0_0)) (fun _ hk => hk.2) (.int .i64 a0_1)) (fun _ hk => hk.2) (.int .i64 a0_2)) (fun _ hk => hk.2) (.string a0_3)) (fun _ hk => hk.2) (.int .i64 a1)) (fun _ h_ => h_.1))) hb); have n2_ := Am (blk_below (g := gb644) (o := .cells #[.int .i64 a0_0, .int .i64 a0_1, .int .i64 a0_2, .string a0_3] 23 (0, 0)) (by (with_reducible repeat (first | refine bn ?_ _ | refine bd ?_ | refine ba ?_ _)); refine blk_far ?_ NB644_653.out _; (with_reducible repeat (first | refine bn ?_ _ | refine bd ?_ | refine ba ?_ _)); refine blk_far ?_ NB644_653.out _; (with_reducible repeat (first | refine bn ?_ _ | refine bd ?_ | refine ba ?_ _)); refine blk_far ?_ NB644_653.out _; (with_reducible repeat (first | refine bn ?_ _ | refine bd ?_ | refine ba ?_ _)); refine blk_far ?_ NB644_653.out _; (with_reducible repeat (first | refine bn ?_ _ | refine bd ?_ | refine ba ?_ _)); refine blk_far ?_ NB644_653.out _; (with_reducible repeat (first | refine bn ?_ _ | refine bd ?_ | refine ba ?_ _)); exact BK644.out) hb); have n3_ := Am (blk_below (g := gb653) (o := .cells #[.int .i64 a0_0, .int .i64 a0_1, .int .i64 a1, .string a0_3] 23 (0, 0)) (by (with_reducible repeat (first | refine bn ?_ _ | refine bd ?_ | refine ba ?_ _)); refine blk_put (cs := #[.int .i64 a0_0, .int .i64 a0_1, .int .i64 a0_2, .string a0_3]) ?_ 2 _ rfl; (with_reducible repeat (first | refine bn ?_ _ | refine bd ?_ | refine ba ?_ _)); refine blk_put (cs := #[.int .i64 a0_0, .int .i64 a0_1, .int .i64 a0_2, .string (⟨#[]⟩ : ByteArray)]) ?_ 3 _ rfl; (with_reducible repeat (first | refine bn ?_ _ | refine bd ?_ | refine ba ?_ _)); refine blk_put (cs := #[.int .i64 a0_0, .int .i64 a0_1, .int .i64 0, .string (⟨#[]⟩ : ByteArray)]) ?_ 2 _ rfl; (with_reducible repeat (first | refine bn ?_ _ | refine bd ?_ | refine ba ?_ _)); refine blk_put (cs := #[.int .i64 a0_0, .int .i64 0, .int .i64 0, .string (⟨#[]⟩ : ByteArray)]) ?_ 1 _ rfl; (with_reducible repeat (first | refine bn ?_ _ | refine bd ?_ | refine ba ?_ _)); refine blk_put (cs := #[.int .i64 0, .int .i64 0, .int .i64 0, .string (⟨#[]⟩ : ByteArray)]) ?_ 0 _ rfl; (with_reducible repeat (first | refine bn ?_ _ | refine bd ?_ | refine ba ?_ _)); exact BK653.out) hb); have n4_ := Am (below_step (by repeat (first | (with_reducible first | exact HB.out | apply bl | apply pN | apply b1 | refine bs ?_ GE644.out | refine bs ?_ GE653.out) | exact HB.out | exact HBo.out)) hb); clear HO647; clear HO650; clear BK644; clear BK653; clear HB; have HO647 := n0_; have HO650 := n1_; have BK644 := n2_; have BK653 := n3_; have HB := n4_; clear n0_ n1_ n2_ n3_ n4_; (try clear hb); (try clear hb2); (try clear hk); (try clear hi); have hnb21 := NB644_653.out; have hnc21 := NB653_644.out; have hcz22_0 : w20.cell? ⟨gb644, 0, none⟩ = some (.int .i64 a0_0) := (bc BK644.out 0).trans rfl; have hcz22_1 : w20.cell? ⟨gb644, 1, none⟩ = some (.int .i64 a0_1) := (bc BK644.out 1).trans rfl; have hcz22_2 : w20.cell? ⟨gb644, 2, none⟩ = some (.int .i64 a0_2) := (bc BK644.out 2).trans rfl; have hcz22_3 : w20.cell? ⟨gb644, 3, none⟩ = some (.string a0_3) := (bc BK644.out 3).trans rfl; have hfz22_0 := bf BK644.out 0; have hfz22_1 := bf BK644.out 1; have hfz22_2 := bf BK644.out 2; have hfz22_3 := bf BK644.out 3; have hcz23_0 : w20.cell? ⟨gb653, 0, none⟩ = some (.int .i64 a0_0) := (bc BK653.out 0).trans rfl; have hcz23_1 : w20.cell? ⟨gb653, 1, none⟩ = some (.int .i64 a0_1) := (bc BK653.out 1).trans rfl; have hcz23_2 : w20.cell? ⟨gb653, 2, none⟩ = some (.int .i64 a1) := (bc BK653.out 2).trans rfl; have hcz23_3 : w20.cell? ⟨gb653, 3, none⟩ = some (.string a0_3) := (bc BK653.out 3).trans rfl; have hfz23_0 := bf BK653.out 0; have hfz23_1 := bf BK653.out 1; have hfz23_2 := bf BK653.out 2; have hfz23_3 := bf BK653.out 3) | (go_at_call 13; (with_reducible refine (batch_May.calls a0_0 a0_1 a1 a0_3 t655 _ A19.out).mono ?_); rintro e w24 ⟨rfl, hb⟩; have n0_ := Am (Kd.S_below (by (with_reducible repeat (first | apply Kd.S_alloc | apply Kd.S_drewN | apply Kd.S_drew)); exact HO647.out) hb); have n1_ := Am (Kd.R_below (by (with_reducible repeat (first | apply Kd.R_alloc | apply Kd.R_drewN | apply Kd.R_drew)); exact HO650.out) hb); have n2_ := Am (blk_below (g := gb644) (o := .cells #[.int .i64 a0_0, .int .i64 a0_1, .int .i64 a0_2, .string a0_3] 23 (0, 0)) (by (with_reducible repeat (first | refine bn ?_ _ | refine bd ?_ | refine ba ?_ _)); exact BK644.out) hb); have n3_ := Am (blk_below (g := gb653) (o := .cells #[.int .i64 a0_0, .int .i64 a0_1, .int .i64 a1, .string a0_3] 23 (0, 0)) (by (with_reducible repeat (first | refine bn ?_ _ | refine bd ?_ | refine ba ?_ _)); exact BK653.out) hb); have n4_ := Am (below_step (by repeat (first | (with_reducible first | exact HB.out | apply bl | apply pN | apply b1 | refine bs ?_ GE644.out | refine bs ?_ GE653.out) | exact HB.out | exact HBo.out)) hb); clear HO647; clear HO650; clear BK644; clear BK653; clear HB; have HO647 := n0_; have HO650 := n1_; have BK644 := n2_; have BK653 := n3_; have HB := n4_; clear n0_ n1_ n2_ n3_ n4_; (try clear hb); (try clear hb2); (try clear hk); (try clear hi)))
     repeat (go_quiet (first | (go_at_call 8; (with_reducible refine (shuttlecocklaw05_fixed.calls k  true _ A12.out).mono ?_); rintro e w20 ⟨rfl, hb⟩; have n0_ := Am (Kd.S_below (by (with_reducible repeat (first | apply Kd.S_alloc | apply Kd.S_drewN | apply Kd.S_drew)); exact (Kd.S_mono (Kd.S_far (p := ⟨gb653, 2, none⟩) (Kd.S_far (p := ⟨gb653, 3, none⟩) (Kd.S_far (p := ⟨gb653, 2, none⟩) (Kd.S_far (p := ⟨gb653, 1, none⟩) (Kd.S_far (p := ⟨gb653, 0, none⟩) (Kd.S_types HO647.out BK653.out (by decide)) (fun _ hk => hk.2) (.int .i64 a0_0)) (fun _ hk => hk.2) (.int .i64 a0_1)) (fun _ hk => hk.2) (.int .i64 a0_2)) (fun _ hk => hk.2) (.string a0_3)) (fun _ hk => hk.2) (.int .i64 a1)) (fun _ h_ => h_.1))) hb); have n1_ := Am (Kd.R_below (by (with_reducible repeat (first | apply Kd.R_alloc | apply Kd.R_drewN | apply Kd.R_drew)); exact (Kd.R_mono (Kd.R_far (p := ⟨gb653, 2, none⟩) (Kd.R_far (p := ⟨gb653, 3, none⟩) (Kd.R_far (p := ⟨gb653, 2, none⟩) (Kd.R_far (p := ⟨gb653, 1, none⟩) (Kd.R_far (p := ⟨gb653, 0, none⟩) (Kd.R_types HO650.out BK653.out (by decide)) (fun _ hk => hk.2) (.int .i64 a0_0)) (fun _ hk => hk.2) (.int .i64 a0_1)) (fun _ hk => hk.2) (.int .i64 a0_2)) (fun _ hk => hk.2) (.string a0_3)) (fun _ hk => hk.2) (.int .i64 a1)) (fun _ h_ => h_.1))) hb); have n2_ := Am (blk_below (g := gb644) (o := .cells #[.int .i64 a0_0, .int .i64 a0_1, .int .i64 a0_2, .string a0_3] 23 (0, 0)) (by (with_reducible repeat (first | refine bn ?_ _ | refine bd ?_ | refine ba ?_ _)); refine blk_far ?_ NB644_653.out _; (with_reducible repeat (first | refine bn ?_ _ | refine bd ?_ | refine ba ?_ _)); refine blk_far ?_ NB644_653.out _; (with_reducible repeat (first | refine bn ?_ _ | refine bd ?_ | refine ba ?_ _)); refine blk_far ?_ NB644_653.out _; (with_reducible repeat (first | refine bn ?_ _ | refine bd ?_ | refine ba ?_ _)); refine blk_far ?_ NB644_653.out _; (with_reducible repeat (first | refine bn ?_ _ | refine bd ?_ | refine ba ?_ _)); refine blk_far ?_ NB644_653.out _; (with_reducible repeat (first | refine bn ?_ _ | refine bd ?_ | refine ba ?_ _)); exact BK644.out) hb); have n3_ := Am (blk_below (g := gb653) (o := .cells #[.int .i64 a0_0, .int .i64 a0_1, .int .i64 a1, .string a0_3] 23 (0, 0)) (by (with_reducible repeat (first | refine bn ?_ _ | refine bd ?_ | refine ba ?_ _)); refine blk_put (cs := #[.int .i64 a0_0, .int .i64 a0_1, .int .i64 a0_2, .string a0_3]) ?_ 2 _ rfl; (with_reducible repeat (first | refine bn ?_ _ | refine bd ?_ | refine ba ?_ _)); refine blk_put (cs := #[.int .i64 a0_0, .int .i64 a0_1, .int .i64 a0_2, .string (⟨#[]⟩ : ByteArray)]) ?_ 3 _ rfl; (with_reducible repeat (first | refine bn ?_ _ | refine bd ?_ | refine ba ?_ _)); refine blk_put (cs := #[.int .i64 a0_0, .int .i64 a0_1, .int .i64 0, .string (⟨#[]⟩ : ByteArray)]) ?_ 2 _ rfl; (with_reducible repeat (first | refine bn ?_ _ | refine bd ?_ | refine ba ?_ _)); refine blk_put (cs := #[.int .i64 a0_0, .int .i64 0, .int .i64 0, .string (⟨#[]⟩ : ByteArray)]) ?_ 1 _ rfl; (with_reducible repeat (first | refine bn ?_ _ | refine bd ?_ | refine ba ?_ _)); refine blk_put (cs := #[.int .i64 0, .int .i64 0, .int .i64 0, .string (⟨#[]⟩ : ByteArray)]) ?_ 0 _ rfl; (with_reducible repeat (first | refine bn ?_ _ | refine bd ?_ | refine ba ?_ _)); exact BK653.out) hb); have n4_ := Am (below_step (by repeat (first | (with_reducible first | exact HB.out | apply bl | apply pN | apply b1 | refine bs ?_ GE644.out | refine bs ?_ GE653.out) | exact HB.out | exact HBo.out)) hb); clear HO647; clear HO650; clear BK644; clear BK653; clear HB; have HO647 := n0_; have HO650 := n1_; have BK644 := n2_; have BK653 := n3_; have HB := n4_; clear n0_ n1_ n2_ n3_ n4_; (try clear hb); (try clear hb2); (try clear hk); (try clear hi); have hnb21 := NB644_653.out; have hnc21 := NB653_644.out; have hcz22_0 : w20.cell? ⟨gb644, 0, none⟩ = some (.int .i64 a0_0) := (bc BK644.out 0).trans rfl; have hcz22_1 : w20.cell? ⟨gb644, 1, none⟩ = some (.int .i64 a0_1) := (bc BK644.out 1).trans rfl; have hcz22_2 : w20.cell? ⟨gb644, 2, none⟩ = some (.int .i64 a0_2) := (bc BK644.out 2).trans rfl; have hcz22_3 : w20.cell? ⟨gb644, 3, none⟩ = some (.string a0_3) := (bc BK644.out 3).trans rfl; have hfz22_0 := bf BK644.out 0; have hfz22_1 := bf BK644.out 1; have hfz22_2 := bf BK644.out 2; have hfz22_3 := bf BK644.out 3; have hcz23_0 : w20.cell? ⟨gb653, 0, none⟩ = some (.int .i64 a0_0) := (bc BK653.out 0).trans rfl; have hcz23_1 : w20.cell? ⟨gb653, 1, none⟩ = some (.int .i64 a0_1) := (bc BK653.out 1).trans rfl; have hcz23_2 : w20.cell? ⟨gb653, 2, none⟩ = some (.int .i64 a1) := (bc BK653.out 2).trans rfl; have hcz23_3 : w20.cell? ⟨gb653, 3, none⟩ = some (.string a0_3) := (bc BK653.out 3).trans rfl; have hfz23_0 := bf BK653.out 0; have hfz23_1 := bf BK653.out 1; have hfz23_2 := bf BK653.out 2; have hfz23_3 := bf BK653.out 3) | (go_at_call 13; (with_reducible refine (batch_May.calls a0_0 a0_1 a1 a0_3 t655 _ A19.out).mono ?_); rintro e w24 ⟨rfl, hb⟩; have n0_ := Am (Kd.S_below (by (with_reducible repeat (first | apply Kd.S_alloc | apply Kd.S_drewN | apply Kd.S_drew)); exact HO647.out) hb); have n1_ := Am (Kd.R_below (by (with_reducible repeat (first | apply Kd.R_alloc | apply Kd.R_drewN | apply Kd.R_drew)); exact HO650.out) hb); have n2_ := Am (blk_below (g := gb644) (o := .cells #[.int .i64 a0_0, .int .i64 a0_1, .int .i64 a0_2, .string a0_3] 23 (0, 0)) (by (with_reducible repeat (first | refine bn ?_ _ | refine bd ?_ | refine ba ?_ _)); exact BK644.out) hb); have n3_ := Am (blk_below (g := gb653) (o := .cells #[.int .i64 a0_0, .int .i64 a0_1, .int .i64 a1, .string a0_3] 23 (0, 0)) (by (with_reducible repeat (first | refine bn ?_ _ | refine bd ?_ | refine ba ?_ _)); exact BK653.out) hb); have n4_ := Am (below_step (by repeat (first | (with_reducible first | exact HB.out | apply bl | apply pN | apply b1 | refine bs ?_ GE644.out | refine bs ?_ GE653.out) | exact HB.out | exact HBo.out)) hb); clear HO647; clear HO650; clear BK644; clear BK653; clear HB; have HO647 := n0_; have HO650 := n1_; have BK644 := n2_; have BK653 := n3_; have HB := n4_; clear n0_ n1_ n2_ n3_ n4_; (try clear hb); (try clear hb2); (try clear hk); (try clear hi))); try go_wp2_with (first | (go_at_call 8; (with_reducible refine (shuttlecocklaw05_fixed.calls k  true _ A12.out).mono ?_); rintro e w20 ⟨rfl, hb⟩; have n0_ := Am (Kd.S_below (by (with_reducible repeat (first | apply Kd.S_alloc | apply Kd.S_drewN | apply Kd.S_drew)); exact (Kd.S_mono (Kd.S_far (p := ⟨gb653, 2, none⟩) (Kd.S_far (p := ⟨gb653, 3, none⟩) (Kd.S_far (p := ⟨gb653, 2, none⟩) (Kd.S_far (p := ⟨gb653, 1, none⟩) (Kd.S_far (p := ⟨gb653, 0, none⟩) (Kd.S_types HO647.out BK653.out (by decide)) (fun _ hk => hk.2) (.int .i64 a0_0)) (fun _ hk => hk.2) (.int .i64 a0_1)) (fun _ hk => hk.2) (.int .i64 a0_2)) (fun _ hk => hk.2) (.string a0_3)) (fun _ hk => hk.2) (.int .i64 a1)) (fun _ h_ => h_.1))) hb); have n1_ := Am (Kd.R_below (by (with_reducible repeat (first | apply Kd.R_alloc | apply Kd.R_drewN | apply Kd.R_drew)); exact (Kd.R_mono (Kd.R_far (p := ⟨gb653, 2, none⟩) (Kd.R_far (p := ⟨gb653, 3, none⟩) (Kd.R_far (p := ⟨gb653, 2, none⟩) (Kd.R_far (p := ⟨gb653, 1, none⟩) (Kd.R_far (p := ⟨gb653, 0, none⟩) (Kd.R_types HO650.out BK653.out (by decide)) (fun _ hk => hk.2) (.int .i64 a0_0)) (fun _ hk => hk.2) (.int .i64 a0_1)) (fun _ hk => hk.2) (.int .i64 a0_2)) (fun _ hk => hk.2) (.string a0_3)) (fun _ hk => hk.2) (.int .i64 a1)) (fun _ h_ => h_.1))) hb); have n2_ := Am (blk_below (g := gb644) (o := .cells #[.int .i64 a0_0, .int .i64 a0_1, .int .i64 a0_2, .string a0_3] 23 (0, 0)) (by (with_reducible repeat (first | refine bn ?_ _ | refine bd ?_ | refine ba ?_ _)); refine blk_far ?_ NB644_653.out _; (with_reducible repeat (first | refine bn ?_ _ | refine bd ?_ | refine ba ?_ _)); refine blk_far ?_ NB644_653.out _; (with_reducible repeat (first | refine bn ?_ _ | refine bd ?_ | refine ba ?_ _)); refine blk_far ?_ NB644_653.out _; (with_reducible repeat (first | refine bn ?_ _ | refine bd ?_ | refine ba ?_ _)); refine blk_far ?_ NB644_653.out _; (with_reducible repeat (first | refine bn ?_ _ | refine bd ?_ | refine ba ?_ _)); refine blk_far ?_ NB644_653.out _; (with_reducible repeat (first | refine bn ?_ _ | refine bd ?_ | refine ba ?_ _)); exact BK644.out) hb); have n3_ := Am (blk_below (g := gb653) (o := .cells #[.int .i64 a0_0, .int .i64 a0_1, .int .i64 a1, .string a0_3] 23 (0, 0)) (by (with_reducible repeat (first | refine bn ?_ _ | refine bd ?_ | refine ba ?_ _)); refine blk_put (cs := #[.int .i64 a0_0, .int .i64 a0_1, .int .i64 a0_2, .string a0_3]) ?_ 2 _ rfl; (with_reducible repeat (first | refine bn ?_ _ | refine bd ?_ | refine ba ?_ _)); refine blk_put (cs := #[.int .i64 a0_0, .int .i64 a0_1, .int .i64 a0_2, .string (⟨#[]⟩ : ByteArray)]) ?_ 3 _ rfl; (with_reducible repeat (first | refine bn ?_ _ | refine bd ?_ | refine ba ?_ _)); refine blk_put (cs := #[.int .i64 a0_0, .int .i64 a0_1, .int .i64 0, .string (⟨#[]⟩ : ByteArray)]) ?_ 2 _ rfl; (with_reducible repeat (first | refine bn ?_ _ | refine bd ?_ | refine ba ?_ _)); refine blk_put (cs := #[.int .i64 a0_0, .int .i64 0, .int .i64 0, .string (⟨#[]⟩ : ByteArray)]) ?_ 1 _ rfl; (with_reducible repeat (first | refine bn ?_ _ | refine bd ?_ | refine ba ?_ _)); refine blk_put (cs := #[.int .i64 0, .int .i64 0, .int .i64 0, .string (⟨#[]⟩ : ByteArray)]) ?_ 0 _ rfl; (with_reducible repeat (first | refine bn ?_ _ | refine bd ?_ | refine ba ?_ _)); exact BK653.out) hb); have n4_ := Am (below_step (by repeat (first | (with_reducible first | exact HB.out | apply bl | apply pN | apply b1 | refine bs ?_ GE644.out | refine bs ?_ GE653.out) | exact HB.out | exact HBo.out)) hb); clear HO647; clear HO650; clear BK644; clear BK653; clear HB; have HO647 := n0_; have HO650 := n1_; have BK644 := n2_; have BK653 := n3_; have HB := n4_; clear n0_ n1_ n2_ n3_ n4_; (try clear hb); (try clear hb2); (try clear hk); (try clear hi); have hnb21 := NB644_653.out; have hnc21 := NB653_644.out; have hcz22_0 : w20.cell? ⟨gb644, 0, none⟩ = some (.int .i64 a0_0) := (bc BK644.out 0).trans rfl; have hcz22_1 : w20.cell? ⟨gb644, 1, none⟩ = some (.int .i64 a0_1) := (bc BK644.out 1).trans rfl; have hcz22_2 : w20.cell? ⟨gb644, 2, none⟩ = some (.int .i64 a0_2) := (bc BK644.out 2).trans rfl; have hcz22_3 : w20.cell? ⟨gb644, 3, none⟩ = some (.string a0_3) := (bc BK644.out 3).trans rfl; have hfz22_0 := bf BK644.out 0; have hfz22_1 := bf BK644.out 1; have hfz22_2 := bf BK644.out 2; have hfz22_3 := bf BK644.out 3; have hcz23_0 : w20.cell? ⟨gb653, 0, none⟩ = some (.int .i64 a0_0) := (bc BK653.out 0).trans rfl; have hcz23_1 : w20.cell? ⟨gb653, 1, none⟩ = some (.int .i64 a0_1) := (bc BK653.out 1).trans rfl; have hcz23_2 : w20.cell? ⟨gb653, 2, none⟩ = some (.int .i64 a1) := (bc BK653.out 2).trans rfl; have hcz23_3 : w20.cell? ⟨gb653, 3, none⟩ = some (.string a0_3) := (bc BK653.out 3).trans rfl; have hfz23_0 := bf BK653.out 0; have hfz23_1 := bf BK653.out 1; have hfz23_2 := bf BK653.out 2; have hfz23_3 := bf BK653.out 3) | (go_at_call 13; (with_reducible refine (batch_May.calls a0_0 a0_1 a1 a0_3 t655 _ A19.out).mono ?_); rintro e w24 ⟨rfl, hb⟩; have n0_ := Am (Kd.S_below (by (with_reducible repeat (first | apply Kd.S_alloc | apply Kd.S_drewN | apply Kd.S_drew)); exact HO647.out) hb); have n1_ := Am (Kd.R_below (by (with_reducible repeat (first | apply Kd.R_alloc | apply Kd.R_drewN | apply Kd.R_drew)); exact HO650.out) hb); have n2_ := Am (blk_below (g := gb644) (o := .cells #[.int .i64 a0_0, .int .i64 a0_1, .int .i64 a0_2, .string a0_3] 23 (0, 0)) (by (with_reducible repeat (first | refine bn ?_ _ | refine bd ?_ | refine ba ?_ _)); exact BK644.out) hb); have n3_ := Am (blk_below (g := gb653) (o := .cells #[.int .i64 a0_0, .int .i64 a0_1, .int .i64 a1, .string a0_3] 23 (0, 0)) (by (with_reducible repeat (first | refine bn ?_ _ | refine bd ?_ | refine ba ?_ _)); exact BK653.out) hb); have n4_ := Am (below_step (by repeat (first | (with_reducible first | exact HB.out | apply bl | apply pN | apply b1 | refine bs ?_ GE644.out | refine bs ?_ GE653.out) | exact HB.out | exact HBo.out)) hb); clear HO647; clear HO650; clear BK644; clear BK653; clear HB; have HO647 := n0_; have HO650 := n1_; have BK644 := n2_; have BK653 := n3_; have HB := n4_; clear n0_ n1_ n2_ n3_ n4_; (try clear hb); (try clear hb2); (try clear hk); (try clear hi))))
     go_meet
     case rel => exact ⟨_, (!t655), (by first | rfl | (simp; done) | (simp [*]; done)), H', ⟨by first | omega | exact Nat.le_refl _⟩, ⟨by (with_reducible repeat (first | apply Kd.S_alloc | apply Kd.S_drewN | apply Kd.S_drew)); exact HO647.out⟩, ⟨by (with_reducible repeat (first | apply Kd.R_alloc | apply Kd.R_drewN | apply Kd.R_drew)); exact HO650.out⟩, ⟨by (with_reducible repeat (first | refine bn ?_ _ | refine bd ?_ | refine ba ?_ _)); exact BK644.out⟩, ⟨by (with_reducible repeat (first | refine bn ?_ _ | refine bd ?_ | refine ba ?_ _)); exact BK653.out⟩, ⟨by repeat (first | (with_reducible first | exact HB.out | apply bl | apply pN | apply b1 | refine bs ?_ GE644.out | refine bs ?_ GE653.out) | exact HB.out | exact HBo.out)⟩⟩
    ·
     rw [if_neg c18] at H
     have c18b0 : (t652 == 0) = false := beq_eq_false_iff_ne.mpr c18
     have c18b1 : (t652 != 0) = true := bne_iff_ne.mpr c18
     have H' := Am H
     clear H
     go_wp2_with (first | (go_at_call 8; (with_reducible refine (shuttlecocklaw05_fixed.calls k  true _ A12.out).mono ?_); rintro e w25 ⟨rfl, hb⟩; have n0_ := Am (Kd.S_below (by (with_reducible repeat (first | apply Kd.S_alloc | apply Kd.S_drewN | apply Kd.S_drew)); exact (Kd.S_mono (Kd.S_far (p := ⟨gb653, 2, none⟩) (Kd.S_far (p := ⟨gb653, 3, none⟩) (Kd.S_far (p := ⟨gb653, 2, none⟩) (Kd.S_far (p := ⟨gb653, 1, none⟩) (Kd.S_far (p := ⟨gb653, 0, none⟩) (Kd.S_types HO647.out BK653.out (by decide)) (fun _ hk => hk.2) (.int .i64 a0_0)) (fun _ hk => hk.2) (.int .i64 a0_1)) (fun _ hk => hk.2) (.int .i64 a0_2)) (fun _ hk => hk.2) (.string a0_3)) (fun _ hk => hk.2) (.int .i64 a1)) (fun _ h_ => h_.1))) hb); have n1_ := Am (Kd.R_below (by (with_reducible repeat (first | apply Kd.R_alloc | apply Kd.R_drewN | apply Kd.R_drew)); exact (Kd.R_mono (Kd.R_far (p := ⟨gb653, 2, none⟩) (Kd.R_far (p := ⟨gb653, 3, none⟩) (Kd.R_far (p := ⟨gb653, 2, none⟩) (Kd.R_far (p := ⟨gb653, 1, none⟩) (Kd.R_far (p := ⟨gb653, 0, none⟩) (Kd.R_types HO650.out BK653.out (by decide)) (fun _ hk => hk.2) (.int .i64 a0_0)) (fun _ hk => hk.2) (.int .i64 a0_1)) (fun _ hk => hk.2) (.int .i64 a0_2)) (fun _ hk => hk.2) (.string a0_3)) (fun _ hk => hk.2) (.int .i64 a1)) (fun _ h_ => h_.1))) hb); have n2_ := Am (blk_below (g := gb644) (o := .cells #[.int .i64 a0_0, .int .i64 a0_1, .int .i64 a0_2, .string a0_3] 23 (0, 0)) (by (with_reducible repeat (first | refine bn ?_ _ | refine bd ?_ | refine ba ?_ _)); refine blk_far ?_ NB644_653.out _; (with_reducible repeat (first | refine bn ?_ _ | refine bd ?_ | refine ba ?_ _)); refine blk_far ?_ NB644_653.out _; (with_reducible repeat (first | refine bn ?_ _ | refine bd ?_ | refine ba ?_ _)); refine blk_far ?_ NB644_653.out _; (with_reducible repeat (first | refine bn ?_ _ | refine bd ?_ | refine ba ?_ _)); refine blk_far ?_ NB644_653.out _; (with_reducible repeat (first | refine bn ?_ _ | refine bd ?_ | refine ba ?_ _)); refine blk_far ?_ NB644_653.out _; (with_reducible repeat (first | refine bn ?_ _ | refine bd ?_ | refine ba ?_ _)); exact BK644.out) hb); have n3_ := Am (blk_below (g := gb653) (o := .cells #[.int .i64 a0_0, .int .i64 a0_1, .int .i64 a1, .string a0_3] 23 (0, 0)) (by (with_reducible repeat (first | refine bn ?_ _ | refine bd ?_ | refine ba ?_ _)); refine blk_put (cs := #[.int .i64 a0_0, .int .i64 a0_1, .int .i64 a0_2, .string a0_3]) ?_ 2 _ rfl; (with_reducible repeat (first | refine bn ?_ _ | refine bd ?_ | refine ba ?_ _)); refine blk_put (cs := #[.int .i64 a0_0, .int .i64 a0_1, .int .i64 a0_2, .string (⟨#[]⟩ : ByteArray)]) ?_ 3 _ rfl; (with_reducible repeat (first | refine bn ?_ _ | refine bd ?_ | refine ba ?_ _)); refine blk_put (cs := #[.int .i64 a0_0, .int .i64 a0_1, .int .i64 0, .string (⟨#[]⟩ : ByteArray)]) ?_ 2 _ rfl; (with_reducible repeat (first | refine bn ?_ _ | refine bd ?_ | refine ba ?_ _)); refine blk_put (cs := #[.int .i64 a0_0, .int .i64 0, .int .i64 0, .string (⟨#[]⟩ : ByteArray)]) ?_ 1 _ rfl; (with_reducible repeat (first | refine bn ?_ _ | refine bd ?_ | refine ba ?_ _)); refine blk_put (cs := #[.int .i64 0, .int .i64 0, .int .i64 0, .string (⟨#[]⟩ : ByteArray)]) ?_ 0 _ rfl; (with_reducible repeat (first | refine bn ?_ _ | refine bd ?_ | refine ba ?_ _)); exact BK653.out) hb); have n4_ := Am (below_step (by repeat (first | (with_reducible first | exact HB.out | apply bl | apply pN | apply b1 | refine bs ?_ GE644.out | refine bs ?_ GE653.out) | exact HB.out | exact HBo.out)) hb); clear HO647; clear HO650; clear BK644; clear BK653; clear HB; have HO647 := n0_; have HO650 := n1_; have BK644 := n2_; have BK653 := n3_; have HB := n4_; clear n0_ n1_ n2_ n3_ n4_; (try clear hb); (try clear hb2); (try clear hk); (try clear hi); have hnb26 := NB644_653.out; have hnc26 := NB653_644.out; have hcz27_0 : w25.cell? ⟨gb644, 0, none⟩ = some (.int .i64 a0_0) := (bc BK644.out 0).trans rfl; have hcz27_1 : w25.cell? ⟨gb644, 1, none⟩ = some (.int .i64 a0_1) := (bc BK644.out 1).trans rfl; have hcz27_2 : w25.cell? ⟨gb644, 2, none⟩ = some (.int .i64 a0_2) := (bc BK644.out 2).trans rfl; have hcz27_3 : w25.cell? ⟨gb644, 3, none⟩ = some (.string a0_3) := (bc BK644.out 3).trans rfl; have hfz27_0 := bf BK644.out 0; have hfz27_1 := bf BK644.out 1; have hfz27_2 := bf BK644.out 2; have hfz27_3 := bf BK644.out 3))
     repeat (go_quiet (first | (go_at_call 8; (with_reducible refine (shuttlecocklaw05_fixed.calls k  true _ A12.out).mono ?_); rintro e w25 ⟨rfl, hb⟩; have n0_ := Am (Kd.S_below (by (with_reducible repeat (first | apply Kd.S_alloc | apply Kd.S_drewN | apply Kd.S_drew)); exact (Kd.S_mono (Kd.S_far (p := ⟨gb653, 2, none⟩) (Kd.S_far (p := ⟨gb653, 3, none⟩) (Kd.S_far (p := ⟨gb653, 2, none⟩) (Kd.S_far (p := ⟨gb653, 1, none⟩) (Kd.S_far (p := ⟨gb653, 0, none⟩) (Kd.S_types HO647.out BK653.out (by decide)) (fun _ hk => hk.2) (.int .i64 a0_0)) (fun _ hk => hk.2) (.int .i64 a0_1)) (fun _ hk => hk.2) (.int .i64 a0_2)) (fun _ hk => hk.2) (.string a0_3)) (fun _ hk => hk.2) (.int .i64 a1)) (fun _ h_ => h_.1))) hb); have n1_ := Am (Kd.R_below (by (with_reducible repeat (first | apply Kd.R_alloc | apply Kd.R_drewN | apply Kd.R_drew)); exact (Kd.R_mono (Kd.R_far (p := ⟨gb653, 2, none⟩) (Kd.R_far (p := ⟨gb653, 3, none⟩) (Kd.R_far (p := ⟨gb653, 2, none⟩) (Kd.R_far (p := ⟨gb653, 1, none⟩) (Kd.R_far (p := ⟨gb653, 0, none⟩) (Kd.R_types HO650.out BK653.out (by decide)) (fun _ hk => hk.2) (.int .i64 a0_0)) (fun _ hk => hk.2) (.int .i64 a0_1)) (fun _ hk => hk.2) (.int .i64 a0_2)) (fun _ hk => hk.2) (.string a0_3)) (fun _ hk => hk.2) (.int .i64 a1)) (fun _ h_ => h_.1))) hb); have n2_ := Am (blk_below (g := gb644) (o := .cells #[.int .i64 a0_0, .int .i64 a0_1, .int .i64 a0_2, .string a0_3] 23 (0, 0)) (by (with_reducible repeat (first | refine bn ?_ _ | refine bd ?_ | refine ba ?_ _)); refine blk_far ?_ NB644_653.out _; (with_reducible repeat (first | refine bn ?_ _ | refine bd ?_ | refine ba ?_ _)); refine blk_far ?_ NB644_653.out _; (with_reducible repeat (first | refine bn ?_ _ | refine bd ?_ | refine ba ?_ _)); refine blk_far ?_ NB644_653.out _; (with_reducible repeat (first | refine bn ?_ _ | refine bd ?_ | refine ba ?_ _)); refine blk_far ?_ NB644_653.out _; (with_reducible repeat (first | refine bn ?_ _ | refine bd ?_ | refine ba ?_ _)); refine blk_far ?_ NB644_653.out _; (with_reducible repeat (first | refine bn ?_ _ | refine bd ?_ | refine ba ?_ _)); exact BK644.out) hb); have n3_ := Am (blk_below (g := gb653) (o := .cells #[.int .i64 a0_0, .int .i64 a0_1, .int .i64 a1, .string a0_3] 23 (0, 0)) (by (with_reducible repeat (first | refine bn ?_ _ | refine bd ?_ | refine ba ?_ _)); refine blk_put (cs := #[.int .i64 a0_0, .int .i64 a0_1, .int .i64 a0_2, .string a0_3]) ?_ 2 _ rfl; (with_reducible repeat (first | refine bn ?_ _ | refine bd ?_ | refine ba ?_ _)); refine blk_put (cs := #[.int .i64 a0_0, .int .i64 a0_1, .int .i64 a0_2, .string (⟨#[]⟩ : ByteArray)]) ?_ 3 _ rfl; (with_reducible repeat (first | refine bn ?_ _ | refine bd ?_ | refine ba ?_ _)); refine blk_put (cs := #[.int .i64 a0_0, .int .i64 a0_1, .int .i64 0, .string (⟨#[]⟩ : ByteArray)]) ?_ 2 _ rfl; (with_reducible repeat (first | refine bn ?_ _ | refine bd ?_ | refine ba ?_ _)); refine blk_put (cs := #[.int .i64 a0_0, .int .i64 0, .int .i64 0, .string (⟨#[]⟩ : ByteArray)]) ?_ 1 _ rfl; (with_reducible repeat (first | refine bn ?_ _ | refine bd ?_ | refine ba ?_ _)); refine blk_put (cs := #[.int .i64 0, .int .i64 0, .int .i64 0, .string (⟨#[]⟩ : ByteArray)]) ?_ 0 _ rfl; (with_reducible repeat (first | refine bn ?_ _ | refine bd ?_ | refine ba ?_ _)); exact BK653.out) hb); have n4_ := Am (below_step (by repeat (first | (with_reducible first | exact HB.out | apply bl | apply pN | apply b1 | refine bs ?_ GE644.out | refine bs ?_ GE653.out) | exact HB.out | exact HBo.out)) hb); clear HO647; clear HO650; clear BK644; clear BK653; clear HB; have HO647 := n0_; have HO650 := n1_; have BK644 := n2_; have BK653 := n3_; have HB := n4_; clear n0_ n1_ n2_ n3_ n4_; (try clear hb); (try clear hb2); (try clear hk); (try clear hi); have hnb26 := NB644_653.out; have hnc26 := NB653_644.out; have hcz27_0 : w25.cell? ⟨gb644, 0, none⟩ = some (.int .i64 a0_0) := (bc BK644.out 0).trans rfl; have hcz27_1 : w25.cell? ⟨gb644, 1, none⟩ = some (.int .i64 a0_1) := (bc BK644.out 1).trans rfl; have hcz27_2 : w25.cell? ⟨gb644, 2, none⟩ = some (.int .i64 a0_2) := (bc BK644.out 2).trans rfl; have hcz27_3 : w25.cell? ⟨gb644, 3, none⟩ = some (.string a0_3) := (bc BK644.out 3).trans rfl; have hfz27_0 := bf BK644.out 0; have hfz27_1 := bf BK644.out 1; have hfz27_2 := bf BK644.out 2; have hfz27_3 := bf BK644.out 3)); try go_wp2_with (first | (go_at_call 8; (with_reducible refine (shuttlecocklaw05_fixed.calls k  true _ A12.out).mono ?_); rintro e w25 ⟨rfl, hb⟩; have n0_ := Am (Kd.S_below (by (with_reducible repeat (first | apply Kd.S_alloc | apply Kd.S_drewN | apply Kd.S_drew)); exact (Kd.S_mono (Kd.S_far (p := ⟨gb653, 2, none⟩) (Kd.S_far (p := ⟨gb653, 3, none⟩) (Kd.S_far (p := ⟨gb653, 2, none⟩) (Kd.S_far (p := ⟨gb653, 1, none⟩) (Kd.S_far (p := ⟨gb653, 0, none⟩) (Kd.S_types HO647.out BK653.out (by decide)) (fun _ hk => hk.2) (.int .i64 a0_0)) (fun _ hk => hk.2) (.int .i64 a0_1)) (fun _ hk => hk.2) (.int .i64 a0_2)) (fun _ hk => hk.2) (.string a0_3)) (fun _ hk => hk.2) (.int .i64 a1)) (fun _ h_ => h_.1))) hb); have n1_ := Am (Kd.R_below (by (with_reducible repeat (first | apply Kd.R_alloc | apply Kd.R_drewN | apply Kd.R_drew)); exact (Kd.R_mono (Kd.R_far (p := ⟨gb653, 2, none⟩) (Kd.R_far (p := ⟨gb653, 3, none⟩) (Kd.R_far (p := ⟨gb653, 2, none⟩) (Kd.R_far (p := ⟨gb653, 1, none⟩) (Kd.R_far (p := ⟨gb653, 0, none⟩) (Kd.R_types HO650.out BK653.out (by decide)) (fun _ hk => hk.2) (.int .i64 a0_0)) (fun _ hk => hk.2) (.int .i64 a0_1)) (fun _ hk => hk.2) (.int .i64 a0_2)) (fun _ hk => hk.2) (.string a0_3)) (fun _ hk => hk.2) (.int .i64 a1)) (fun _ h_ => h_.1))) hb); have n2_ := Am (blk_below (g := gb644) (o := .cells #[.int .i64 a0_0, .int .i64 a0_1, .int .i64 a0_2, .string a0_3] 23 (0, 0)) (by (with_reducible repeat (first | refine bn ?_ _ | refine bd ?_ | refine ba ?_ _)); refine blk_far ?_ NB644_653.out _; (with_reducible repeat (first | refine bn ?_ _ | refine bd ?_ | refine ba ?_ _)); refine blk_far ?_ NB644_653.out _; (with_reducible repeat (first | refine bn ?_ _ | refine bd ?_ | refine ba ?_ _)); refine blk_far ?_ NB644_653.out _; (with_reducible repeat (first | refine bn ?_ _ | refine bd ?_ | refine ba ?_ _)); refine blk_far ?_ NB644_653.out _; (with_reducible repeat (first | refine bn ?_ _ | refine bd ?_ | refine ba ?_ _)); refine blk_far ?_ NB644_653.out _; (with_reducible repeat (first | refine bn ?_ _ | refine bd ?_ | refine ba ?_ _)); exact BK644.out) hb); have n3_ := Am (blk_below (g := gb653) (o := .cells #[.int .i64 a0_0, .int .i64 a0_1, .int .i64 a1, .string a0_3] 23 (0, 0)) (by (with_reducible repeat (first | refine bn ?_ _ | refine bd ?_ | refine ba ?_ _)); refine blk_put (cs := #[.int .i64 a0_0, .int .i64 a0_1, .int .i64 a0_2, .string a0_3]) ?_ 2 _ rfl; (with_reducible repeat (first | refine bn ?_ _ | refine bd ?_ | refine ba ?_ _)); refine blk_put (cs := #[.int .i64 a0_0, .int .i64 a0_1, .int .i64 a0_2, .string (⟨#[]⟩ : ByteArray)]) ?_ 3 _ rfl; (with_reducible repeat (first | refine bn ?_ _ | refine bd ?_ | refine ba ?_ _)); refine blk_put (cs := #[.int .i64 a0_0, .int .i64 a0_1, .int .i64 0, .string (⟨#[]⟩ : ByteArray)]) ?_ 2 _ rfl; (with_reducible repeat (first | refine bn ?_ _ | refine bd ?_ | refine ba ?_ _)); refine blk_put (cs := #[.int .i64 a0_0, .int .i64 0, .int .i64 0, .string (⟨#[]⟩ : ByteArray)]) ?_ 1 _ rfl; (with_reducible repeat (first | refine bn ?_ _ | refine bd ?_ | refine ba ?_ _)); refine blk_put (cs := #[.int .i64 0, .int .i64 0, .int .i64 0, .string (⟨#[]⟩ : ByteArray)]) ?_ 0 _ rfl; (with_reducible repeat (first | refine bn ?_ _ | refine bd ?_ | refine ba ?_ _)); exact BK653.out) hb); have n4_ := Am (below_step (by repeat (first | (with_reducible first | exact HB.out | apply bl | apply pN | apply b1 | refine bs ?_ GE644.out | refine bs ?_ GE653.out) | exact HB.out | exact HBo.out)) hb); clear HO647; clear HO650; clear BK644; clear BK653; clear HB; have HO647 := n0_; have HO650 := n1_; have BK644 := n2_; have BK653 := n3_; have HB := n4_; clear n0_ n1_ n2_ n3_ n4_; (try clear hb); (try clear hb2); (try clear hk); (try clear hi); have hnb26 := NB644_653.out; have hnc26 := NB653_644.out; have hcz27_0 : w25.cell? ⟨gb644, 0, none⟩ = some (.int .i64 a0_0) := (bc BK644.out 0).trans rfl; have hcz27_1 : w25.cell? ⟨gb644, 1, none⟩ = some (.int .i64 a0_1) := (bc BK644.out 1).trans rfl; have hcz27_2 : w25.cell? ⟨gb644, 2, none⟩ = some (.int .i64 a0_2) := (bc BK644.out 2).trans rfl; have hcz27_3 : w25.cell? ⟨gb644, 3, none⟩ = some (.string a0_3) := (bc BK644.out 3).trans rfl; have hfz27_0 := bf BK644.out 0; have hfz27_1 := bf BK644.out 1; have hfz27_2 := bf BK644.out 2; have hfz27_3 := bf BK644.out 3)))
     go_meet
     case rel => exact ⟨_, (true), (by first | rfl | (simp; done) | (simp [*]; done)), H', ⟨by first | omega | exact Nat.le_refl _⟩, ⟨by (with_reducible repeat (first | apply Kd.S_alloc | apply Kd.S_drewN | apply Kd.S_drew)); exact HO647.out⟩, ⟨by (with_reducible repeat (first | apply Kd.R_alloc | apply Kd.R_drewN | apply Kd.R_drew)); exact HO650.out⟩, ⟨by (with_reducible repeat (first | refine bn ?_ _ | refine bd ?_ | refine ba ?_ _)); exact BK644.out⟩, ⟨by (with_reducible repeat (first | refine bn ?_ _ | refine bd ?_ | refine ba ?_ _)); exact BK653.out⟩, ⟨by repeat (first | (with_reducible first | exact HB.out | apply bl | apply pN | apply b1 | refine bs ?_ GE644.out | refine bs ?_ GE653.out) | exact HB.out | exact HBo.out)⟩⟩
  ·
   replace c13 := Bool.eq_false_iff.mpr c13
   subst c13
   have H1 : (shuttlecocklaw05_BatchBase.j0 k a1 t645 t648 true a0_0 a0_1 a0_2 a0_3 a0_0 a0_1 a1 a0_3) = some r := by rw [if_neg (show ¬ (false = true) by decide)] at H; exact H
   clear H
   have H := H1
   clear H1
   have H' := Am H
   clear H
   go_wp2_with (first | (go_at_call 8; (with_reducible refine (shuttlecocklaw05_fixed.calls k  false _ A12.out).mono ?_); rintro e w28 ⟨rfl, hb⟩; have n0_ := Am (Kd.S_below (by (with_reducible repeat (first | apply Kd.S_alloc | apply Kd.S_drewN | apply Kd.S_drew)); exact (Kd.S_mono (Kd.S_far (p := ⟨gb653, 2, none⟩) (Kd.S_far (p := ⟨gb653, 3, none⟩) (Kd.S_far (p := ⟨gb653, 2, none⟩) (Kd.S_far (p := ⟨gb653, 1, none⟩) (Kd.S_far (p := ⟨gb653, 0, none⟩) (Kd.S_types HO647.out BK653.out (by decide)) (fun _ hk => hk.2) (.int .i64 a0_0)) (fun _ hk => hk.2) (.int .i64 a0_1)) (fun _ hk => hk.2) (.int .i64 a0_2)) (fun _ hk => hk.2) (.string a0_3)) (fun _ hk => hk.2) (.int .i64 a1)) (fun _ h_ => h_.1))) hb); have n1_ := Am (Kd.R_below (by (with_reducible repeat (first | apply Kd.R_alloc | apply Kd.R_drewN | apply Kd.R_drew)); exact (Kd.R_mono (Kd.R_far (p := ⟨gb653, 2, none⟩) (Kd.R_far (p := ⟨gb653, 3, none⟩) (Kd.R_far (p := ⟨gb653, 2, none⟩) (Kd.R_far (p := ⟨gb653, 1, none⟩) (Kd.R_far (p := ⟨gb653, 0, none⟩) (Kd.R_types HO650.out BK653.out (by decide)) (fun _ hk => hk.2) (.int .i64 a0_0)) (fun _ hk => hk.2) (.int .i64 a0_1)) (fun _ hk => hk.2) (.int .i64 a0_2)) (fun _ hk => hk.2) (.string a0_3)) (fun _ hk => hk.2) (.int .i64 a1)) (fun _ h_ => h_.1))) hb); have n2_ := Am (blk_below (g := gb644) (o := .cells #[.int .i64 a0_0, .int .i64 a0_1, .int .i64 a0_2, .string a0_3] 23 (0, 0)) (by (with_reducible repeat (first | refine bn ?_ _ | refine bd ?_ | refine ba ?_ _)); refine blk_far ?_ NB644_653.out _; (with_reducible repeat (first | refine bn ?_ _ | refine bd ?_ | refine ba ?_ _)); refine blk_far ?_ NB644_653.out _; (with_reducible repeat (first | refine bn ?_ _ | refine bd ?_ | refine ba ?_ _)); refine blk_far ?_ NB644_653.out _; (with_reducible repeat (first | refine bn ?_ _ | refine bd ?_ | refine ba ?_ _)); refine blk_far ?_ NB644_653.out _; (with_reducible repeat (first | refine bn ?_ _ | refine bd ?_ | refine ba ?_ _)); refine blk_far ?_ NB644_653.out _; (with_reducible repeat (first | refine bn ?_ _ | refine bd ?_ | refine ba ?_ _)); exact BK644.out) hb); have n3_ := Am (blk_below (g := gb653) (o := .cells #[.int .i64 a0_0, .int .i64 a0_1, .int .i64 a1, .string a0_3] 23 (0, 0)) (by (with_reducible repeat (first | refine bn ?_ _ | refine bd ?_ | refine ba ?_ _)); refine blk_put (cs := #[.int .i64 a0_0, .int .i64 a0_1, .int .i64 a0_2, .string a0_3]) ?_ 2 _ rfl; (with_reducible repeat (first | refine bn ?_ _ | refine bd ?_ | refine ba ?_ _)); refine blk_put (cs := #[.int .i64 a0_0, .int .i64 a0_1, .int .i64 a0_2, .string (⟨#[]⟩ : ByteArray)]) ?_ 3 _ rfl; (with_reducible repeat (first | refine bn ?_ _ | refine bd ?_ | refine ba ?_ _)); refine blk_put (cs := #[.int .i64 a0_0, .int .i64 a0_1, .int .i64 0, .string (⟨#[]⟩ : ByteArray)]) ?_ 2 _ rfl; (with_reducible repeat (first | refine bn ?_ _ | refine bd ?_ | refine ba ?_ _)); refine blk_put (cs := #[.int .i64 a0_0, .int .i64 0, .int .i64 0, .string (⟨#[]⟩ : ByteArray)]) ?_ 1 _ rfl; (with_reducible repeat (first | refine bn ?_ _ | refine bd ?_ | refine ba ?_ _)); refine blk_put (cs := #[.int .i64 0, .int .i64 0, .int .i64 0, .string (⟨#[]⟩ : ByteArray)]) ?_ 0 _ rfl; (with_reducible repeat (first | refine bn ?_ _ | refine bd ?_ | refine ba ?_ _)); exact BK653.out) hb); have n4_ := Am (below_step (by repeat (first | (with_reducible first | exact HB.out | apply bl | apply pN | apply b1 | refine bs ?_ GE644.out | refine bs ?_ GE653.out) | exact HB.out | exact HBo.out)) hb); clear HO647; clear HO650; clear BK644; clear BK653; clear HB; have HO647 := n0_; have HO650 := n1_; have BK644 := n2_; have BK653 := n3_; have HB := n4_; clear n0_ n1_ n2_ n3_ n4_; (try clear hb); (try clear hb2); (try clear hk); (try clear hi)))
   repeat (go_quiet (first | (go_at_call 8; (with_reducible refine (shuttlecocklaw05_fixed.calls k  false _ A12.out).mono ?_); rintro e w28 ⟨rfl, hb⟩; have n0_ := Am (Kd.S_below (by (with_reducible repeat (first | apply Kd.S_alloc | apply Kd.S_drewN | apply Kd.S_drew)); exact (Kd.S_mono (Kd.S_far (p := ⟨gb653, 2, none⟩) (Kd.S_far (p := ⟨gb653, 3, none⟩) (Kd.S_far (p := ⟨gb653, 2, none⟩) (Kd.S_far (p := ⟨gb653, 1, none⟩) (Kd.S_far (p := ⟨gb653, 0, none⟩) (Kd.S_types HO647.out BK653.out (by decide)) (fun _ hk => hk.2) (.int .i64 a0_0)) (fun _ hk => hk.2) (.int .i64 a0_1)) (fun _ hk => hk.2) (.int .i64 a0_2)) (fun _ hk => hk.2) (.string a0_3)) (fun _ hk => hk.2) (.int .i64 a1)) (fun _ h_ => h_.1))) hb); have n1_ := Am (Kd.R_below (by (with_reducible repeat (first | apply Kd.R_alloc | apply Kd.R_drewN | apply Kd.R_drew)); exact (Kd.R_mono (Kd.R_far (p := ⟨gb653, 2, none⟩) (Kd.R_far (p := ⟨gb653, 3, none⟩) (Kd.R_far (p := ⟨gb653, 2, none⟩) (Kd.R_far (p := ⟨gb653, 1, none⟩) (Kd.R_far (p := ⟨gb653, 0, none⟩) (Kd.R_types HO650.out BK653.out (by decide)) (fun _ hk => hk.2) (.int .i64 a0_0)) (fun _ hk => hk.2) (.int .i64 a0_1)) (fun _ hk => hk.2) (.int .i64 a0_2)) (fun _ hk => hk.2) (.string a0_3)) (fun _ hk => hk.2) (.int .i64 a1)) (fun _ h_ => h_.1))) hb); have n2_ := Am (blk_below (g := gb644) (o := .cells #[.int .i64 a0_0, .int .i64 a0_1, .int .i64 a0_2, .string a0_3] 23 (0, 0)) (by (with_reducible repeat (first | refine bn ?_ _ | refine bd ?_ | refine ba ?_ _)); refine blk_far ?_ NB644_653.out _; (with_reducible repeat (first | refine bn ?_ _ | refine bd ?_ | refine ba ?_ _)); refine blk_far ?_ NB644_653.out _; (with_reducible repeat (first | refine bn ?_ _ | refine bd ?_ | refine ba ?_ _)); refine blk_far ?_ NB644_653.out _; (with_reducible repeat (first | refine bn ?_ _ | refine bd ?_ | refine ba ?_ _)); refine blk_far ?_ NB644_653.out _; (with_reducible repeat (first | refine bn ?_ _ | refine bd ?_ | refine ba ?_ _)); refine blk_far ?_ NB644_653.out _; (with_reducible repeat (first | refine bn ?_ _ | refine bd ?_ | refine ba ?_ _)); exact BK644.out) hb); have n3_ := Am (blk_below (g := gb653) (o := .cells #[.int .i64 a0_0, .int .i64 a0_1, .int .i64 a1, .string a0_3] 23 (0, 0)) (by (with_reducible repeat (first | refine bn ?_ _ | refine bd ?_ | refine ba ?_ _)); refine blk_put (cs := #[.int .i64 a0_0, .int .i64 a0_1, .int .i64 a0_2, .string a0_3]) ?_ 2 _ rfl; (with_reducible repeat (first | refine bn ?_ _ | refine bd ?_ | refine ba ?_ _)); refine blk_put (cs := #[.int .i64 a0_0, .int .i64 a0_1, .int .i64 a0_2, .string (⟨#[]⟩ : ByteArray)]) ?_ 3 _ rfl; (with_reducible repeat (first | refine bn ?_ _ | refine bd ?_ | refine ba ?_ _)); refine blk_put (cs := #[.int .i64 a0_0, .int .i64 a0_1, .int .i64 0, .string (⟨#[]⟩ : ByteArray)]) ?_ 2 _ rfl; (with_reducible repeat (first | refine bn ?_ _ | refine bd ?_ | refine ba ?_ _)); refine blk_put (cs := #[.int .i64 a0_0, .int .i64 0, .int .i64 0, .string (⟨#[]⟩ : ByteArray)]) ?_ 1 _ rfl; (with_reducible repeat (first | refine bn ?_ _ | refine bd ?_ | refine ba ?_ _)); refine blk_put (cs := #[.int .i64 0, .int .i64 0, .int .i64 0, .string (⟨#[]⟩ : ByteArray)]) ?_ 0 _ rfl; (with_reducible repeat (first | refine bn ?_ _ | refine bd ?_ | refine ba ?_ _)); exact BK653.out) hb); have n4_ := Am (below_step (by repeat (first | (with_reducible first | exact HB.out | apply bl | apply pN | apply b1 | refine bs ?_ GE644.out | refine bs ?_ GE653.out) | exact HB.out | exact HBo.out)) hb); clear HO647; clear HO650; clear BK644; clear BK653; clear HB; have HO647 := n0_; have HO650 := n1_; have BK644 := n2_; have BK653 := n3_; have HB := n4_; clear n0_ n1_ n2_ n3_ n4_; (try clear hb); (try clear hb2); (try clear hk); (try clear hi))); try go_wp2_with (first | (go_at_call 8; (with_reducible refine (shuttlecocklaw05_fixed.calls k  false _ A12.out).mono ?_); rintro e w28 ⟨rfl, hb⟩; have n0_ := Am (Kd.S_below (by (with_reducible repeat (first | apply Kd.S_alloc | apply Kd.S_drewN | apply Kd.S_drew)); exact (Kd.S_mono (Kd.S_far (p := ⟨gb653, 2, none⟩) (Kd.S_far (p := ⟨gb653, 3, none⟩) (Kd.S_far (p := ⟨gb653, 2, none⟩) (Kd.S_far (p := ⟨gb653, 1, none⟩) (Kd.S_far (p := ⟨gb653, 0, none⟩) (Kd.S_types HO647.out BK653.out (by decide)) (fun _ hk => hk.2) (.int .i64 a0_0)) (fun _ hk => hk.2) (.int .i64 a0_1)) (fun _ hk => hk.2) (.int .i64 a0_2)) (fun _ hk => hk.2) (.string a0_3)) (fun _ hk => hk.2) (.int .i64 a1)) (fun _ h_ => h_.1))) hb); have n1_ := Am (Kd.R_below (by (with_reducible repeat (first | apply Kd.R_alloc | apply Kd.R_drewN | apply Kd.R_drew)); exact (Kd.R_mono (Kd.R_far (p := ⟨gb653, 2, none⟩) (Kd.R_far (p := ⟨gb653, 3, none⟩) (Kd.R_far (p := ⟨gb653, 2, none⟩) (Kd.R_far (p := ⟨gb653, 1, none⟩) (Kd.R_far (p := ⟨gb653, 0, none⟩) (Kd.R_types HO650.out BK653.out (by decide)) (fun _ hk => hk.2) (.int .i64 a0_0)) (fun _ hk => hk.2) (.int .i64 a0_1)) (fun _ hk => hk.2) (.int .i64 a0_2)) (fun _ hk => hk.2) (.string a0_3)) (fun _ hk => hk.2) (.int .i64 a1)) (fun _ h_ => h_.1))) hb); have n2_ := Am (blk_below (g := gb644) (o := .cells #[.int .i64 a0_0, .int .i64 a0_1, .int .i64 a0_2, .string a0_3] 23 (0, 0)) (by (with_reducible repeat (first | refine bn ?_ _ | refine bd ?_ | refine ba ?_ _)); refine blk_far ?_ NB644_653.out _; (with_reducible repeat (first | refine bn ?_ _ | refine bd ?_ | refine ba ?_ _)); refine blk_far ?_ NB644_653.out _; (with_reducible repeat (first | refine bn ?_ _ | refine bd ?_ | refine ba ?_ _)); refine blk_far ?_ NB644_653.out _; (with_reducible repeat (first | refine bn ?_ _ | refine bd ?_ | refine ba ?_ _)); refine blk_far ?_ NB644_653.out _; (with_reducible repeat (first | refine bn ?_ _ | refine bd ?_ | refine ba ?_ _)); refine blk_far ?_ NB644_653.out _; (with_reducible repeat (first | refine bn ?_ _ | refine bd ?_ | refine ba ?_ _)); exact BK644.out) hb); have n3_ := Am (blk_below (g := gb653) (o := .cells #[.int .i64 a0_0, .int .i64 a0_1, .int .i64 a1, .string a0_3] 23 (0, 0)) (by (with_reducible repeat (first | refine bn ?_ _ | refine bd ?_ | refine ba ?_ _)); refine blk_put (cs := #[.int .i64 a0_0, .int .i64 a0_1, .int .i64 a0_2, .string a0_3]) ?_ 2 _ rfl; (with_reducible repeat (first | refine bn ?_ _ | refine bd ?_ | refine ba ?_ _)); refine blk_put (cs := #[.int .i64 a0_0, .int .i64 a0_1, .int .i64 a0_2, .string (⟨#[]⟩ : ByteArray)]) ?_ 3 _ rfl; (with_reducible repeat (first | refine bn ?_ _ | refine bd ?_ | refine ba ?_ _)); refine blk_put (cs := #[.int .i64 a0_0, .int .i64 a0_1, .int .i64 0, .string (⟨#[]⟩ : ByteArray)]) ?_ 2 _ rfl; (with_reducible repeat (first | refine bn ?_ _ | refine bd ?_ | refine ba ?_ _)); refine blk_put (cs := #[.int .i64 a0_0, .int .i64 0, .int .i64 0, .string (⟨#[]⟩ : ByteArray)]) ?_ 1 _ rfl; (with_reducible repeat (first | refine bn ?_ _ | refine bd ?_ | refine ba ?_ _)); refine blk_put (cs := #[.int .i64 0, .int .i64 0, .int .i64 0, .string (⟨#[]⟩ : ByteArray)]) ?_ 0 _ rfl; (with_reducible repeat (first | refine bn ?_ _ | refine bd ?_ | refine ba ?_ _)); exact BK653.out) hb); have n4_ := Am (below_step (by repeat (first | (with_reducible first | exact HB.out | apply bl | apply pN | apply b1 | refine bs ?_ GE644.out | refine bs ?_ GE653.out) | exact HB.out | exact HBo.out)) hb); clear HO647; clear HO650; clear BK644; clear BK653; clear HB; have HO647 := n0_; have HO650 := n1_; have BK644 := n2_; have BK653 := n3_; have HB := n4_; clear n0_ n1_ n2_ n3_ n4_; (try clear hb); (try clear hb2); (try clear hk); (try clear hi))))
   go_meet
   case rel => exact ⟨_, (true), (by first | rfl | (simp; done) | (simp [*]; done)), H', ⟨by first | omega | exact Nat.le_refl _⟩, ⟨by (with_reducible repeat (first | apply Kd.S_alloc | apply Kd.S_drewN | apply Kd.S_drew)); exact HO647.out⟩, ⟨by (with_reducible repeat (first | apply Kd.R_alloc | apply Kd.R_drewN | apply Kd.R_drew)); exact HO650.out⟩, ⟨by (with_reducible repeat (first | refine bn ?_ _ | refine bd ?_ | refine ba ?_ _)); exact BK644.out⟩, ⟨by (with_reducible repeat (first | refine bn ?_ _ | refine bd ?_ | refine ba ?_ _)); exact BK653.out⟩, ⟨by repeat (first | (with_reducible first | exact HB.out | apply bl | apply pN | apply b1 | refine bs ?_ GE644.out | refine bs ?_ GE653.out) | exact HB.out | exact HBo.out)⟩⟩
 case rest =>
  clear HC4
  try clear c1
  try clear c2
  try clear p2
  try clear c6
  try clear c10
  try clear c13
  try clear c14
  try clear c14b0
  try clear c14b1
  try clear c16
  try clear c18
  try clear c18b0
  try clear c18b1
  try clear c21
  try clear c26
  try clear hcz11_0
  try clear hcz11_1
  try clear hcz11_2
  try clear hcz11_3
  try clear hcz17_0
  try clear hcz17_1
  try clear hcz17_2
  try clear hcz17_3
  try clear hcz22_0
  try clear hcz22_1
  try clear hcz22_2
  try clear hcz22_3
  try clear hcz23_0
  try clear hcz23_1
  try clear hcz23_2
  try clear hcz23_3
  try clear hcz27_0
  try clear hcz27_1
  try clear hcz27_2
  try clear hcz27_3
  try clear hcz6_0
  try clear hcz6_1
  try clear hcz6_2
  try clear hcz6_3
  try clear hcz8_0
  try clear hcz8_1
  try clear hcz8_2
  try clear hcz8_3
  try clear hfz11_0
  try clear hfz11_1
  try clear hfz11_2
  try clear hfz11_3
  try clear hfz17_0
  try clear hfz17_1
  try clear hfz17_2
  try clear hfz17_3
  try clear hfz22_0
  try clear hfz22_1
  try clear hfz22_2
  try clear hfz22_3
  try clear hfz23_0
  try clear hfz23_1
  try clear hfz23_2
  try clear hfz23_3
  try clear hfz27_0
  try clear hfz27_1
  try clear hfz27_2
  try clear hfz27_3
  try clear hfz6_0
  try clear hfz6_1
  try clear hfz6_2
  try clear hfz6_3
  try clear hfz8_0
  try clear hfz8_1
  try clear hfz8_2
  try clear hfz8_3
  obtain ⟨kq, x41_3, rfl, HA, HJ3, HO_5, HO_6, BK644, BK653, HB⟩ := hcut
  cases kq with
  | zero => exact absurd HA.out (by simp [shuttlecocklaw05_BatchBase.j0])
  | succ kj3 =>
   have H := HA.out
   clear HA
   simp only [shuttlecocklaw05_BatchBase.j0] at H
   by_cases c29 : x41_3 = true
   ·
    subst c29
    have H1 : ((shuttlecocklaw05_fixed.f kj3).bind fun t656 => (some t656)) = some r := by rw [if_pos rfl] at H; exact H
    clear H
    have H := H1
    clear H1
    replace H := ob H
    obtain ⟨t656, A300, H⟩ := H
    replace H : (some t656) = some r := H
    have A30 := Am A300
    clear A300
    obtain rfl := Option.some.inj H
    go_wp2_with (first | (go_at_call 8; (with_reducible refine (shuttlecocklaw05_fixed.calls kj3  t656 _ A30.out).mono ?_); rintro e w31 ⟨rfl, hb⟩; have n0_ := Am (Kd.S_below (by (with_reducible repeat (first | apply Kd.S_alloc | apply Kd.S_drewN | apply Kd.S_drew)); exact HO_5.out) hb); have n1_ := Am (Kd.R_below (by (with_reducible repeat (first | apply Kd.R_alloc | apply Kd.R_drewN | apply Kd.R_drew)); exact HO_6.out) hb); have n2_ := Am (blk_below (g := gb644) (o := .cells #[.int .i64 a0_0, .int .i64 a0_1, .int .i64 a0_2, .string a0_3] 23 (0, 0)) (by (with_reducible repeat (first | refine bn ?_ _ | refine bd ?_ | refine ba ?_ _)); exact BK644.out) hb); have n3_ := Am (blk_below (g := gb653) (o := .cells #[.int .i64 a0_0, .int .i64 a0_1, .int .i64 a1, .string a0_3] 23 (0, 0)) (by (with_reducible repeat (first | refine bn ?_ _ | refine bd ?_ | refine ba ?_ _)); exact BK653.out) hb); have n4_ := Am (below_step (by repeat (first | (with_reducible first | exact HB.out | apply bl | apply pN | apply b1 | refine bs ?_ GE644.out | refine bs ?_ GE653.out) | exact HB.out | exact HBo.out)) hb); clear HO_5; clear HO_6; clear BK644; clear BK653; clear HB; have HO_5 := n0_; have HO_6 := n1_; have BK644 := n2_; have BK653 := n3_; have HB := n4_; clear n0_ n1_ n2_ n3_ n4_; (try clear hb); (try clear hb2); (try clear hk); (try clear hi)))
    repeat (go_quiet (first | (go_at_call 8; (with_reducible refine (shuttlecocklaw05_fixed.calls kj3  t656 _ A30.out).mono ?_); rintro e w31 ⟨rfl, hb⟩; have n0_ := Am (Kd.S_below (by (with_reducible repeat (first | apply Kd.S_alloc | apply Kd.S_drewN | apply Kd.S_drew)); exact HO_5.out) hb); have n1_ := Am (Kd.R_below (by (with_reducible repeat (first | apply Kd.R_alloc | apply Kd.R_drewN | apply Kd.R_drew)); exact HO_6.out) hb); have n2_ := Am (blk_below (g := gb644) (o := .cells #[.int .i64 a0_0, .int .i64 a0_1, .int .i64 a0_2, .string a0_3] 23 (0, 0)) (by (with_reducible repeat (first | refine bn ?_ _ | refine bd ?_ | refine ba ?_ _)); exact BK644.out) hb); have n3_ := Am (blk_below (g := gb653) (o := .cells #[.int .i64 a0_0, .int .i64 a0_1, .int .i64 a1, .string a0_3] 23 (0, 0)) (by (with_reducible repeat (first | refine bn ?_ _ | refine bd ?_ | refine ba ?_ _)); exact BK653.out) hb); have n4_ := Am (below_step (by repeat (first | (with_reducible first | exact HB.out | apply bl | apply pN | apply b1 | refine bs ?_ GE644.out | refine bs ?_ GE653.out) | exact HB.out | exact HBo.out)) hb); clear HO_5; clear HO_6; clear BK644; clear BK653; clear HB; have HO_5 := n0_; have HO_6 := n1_; have BK644 := n2_; have BK653 := n3_; have HB := n4_; clear n0_ n1_ n2_ n3_ n4_; (try clear hb); (try clear hb2); (try clear hk); (try clear hi))); try go_wp2_with (first | (go_at_call 8; (with_reducible refine (shuttlecocklaw05_fixed.calls kj3  t656 _ A30.out).mono ?_); rintro e w31 ⟨rfl, hb⟩; have n0_ := Am (Kd.S_below (by (with_reducible repeat (first | apply Kd.S_alloc | apply Kd.S_drewN | apply Kd.S_drew)); exact HO_5.out) hb); have n1_ := Am (Kd.R_below (by (with_reducible repeat (first | apply Kd.R_alloc | apply Kd.R_drewN | apply Kd.R_drew)); exact HO_6.out) hb); have n2_ := Am (blk_below (g := gb644) (o := .cells #[.int .i64 a0_0, .int .i64 a0_1, .int .i64 a0_2, .string a0_3] 23 (0, 0)) (by (with_reducible repeat (first | refine bn ?_ _ | refine bd ?_ | refine ba ?_ _)); exact BK644.out) hb); have n3_ := Am (blk_below (g := gb653) (o := .cells #[.int .i64 a0_0, .int .i64 a0_1, .int .i64 a1, .string a0_3] 23 (0, 0)) (by (with_reducible repeat (first | refine bn ?_ _ | refine bd ?_ | refine ba ?_ _)); exact BK653.out) hb); have n4_ := Am (below_step (by repeat (first | (with_reducible first | exact HB.out | apply bl | apply pN | apply b1 | refine bs ?_ GE644.out | refine bs ?_ GE653.out) | exact HB.out | exact HBo.out)) hb); clear HO_5; clear HO_6; clear BK644; clear BK653; clear HB; have HO_5 := n0_; have HO_6 := n1_; have BK644 := n2_; have BK653 := n3_; have HB := n4_; clear n0_ n1_ n2_ n3_ n4_; (try clear hb); (try clear hb2); (try clear hk); (try clear hi))))
    go_ret
    exact ⟨by first | rfl | (simp [errW_none, errW_some] <;> rfl) | (simp [*, errW_none, errW_some] <;> rfl) | (simp [Aid.ne_nil, Aid.eq_nil, errW_none, errW_some]; done), by repeat (first | (with_reducible first | exact HB.out | apply bl | apply pN | apply b1 | refine bs ?_ GE644.out | refine bs ?_ GE653.out) | exact HB.out | exact HBo.out)⟩
   ·
    replace c29 := Bool.eq_false_iff.mpr c29
    subst c29
    have H1 : ((batch_Events.f kj3 a0_0 a0_1 a1 a0_3).bind fun bt657 => (if bt657.2.2.2 = 0 then (shuttlecocklaw05_BatchBase.l0 kj3 a1 t645 t648 bt657.1 bt657.2.1 0 a0_0 a0_1 a0_2 a0_3) else (if bt657.2.2.2 = 11 then (some (decide (a1 > a0_2))) else (none)))) = some r := by rw [if_neg (show ¬ (false = true) by decide)] at H; exact H
    clear H
    have H := H1
    clear H1
    replace H := ob H
    obtain ⟨⟨t657, t660, t663, t664⟩, A320, H⟩ := H
    replace H : (if t664 = 0 then (shuttlecocklaw05_BatchBase.l0 kj3 a1 t645 t648 t657 t660 0 a0_0 a0_1 a0_2 a0_3) else (if t664 = 11 then (some (decide (a1 > a0_2))) else (none))) = some r := H
    have A32 := Am A320
    clear A320
    by_cases c33 : t664 = 0
    ·
     rw [if_pos c33] at H
     have c33b0 : (t664 == 0) = true := beq_iff_eq.mpr c33
     have c33b1 : (t664 != 0) = false := bne_eq_false_iff_eq.mpr c33
     clear c33
     have H' := Am H
     clear H
     have hnb34 := NB653_644.out
     have hnc34 := NB644_653.out
     have hcz35_0 : wc.cell? ⟨gb653, 0, none⟩ = some (.int .i64 a0_0) := (bc BK653.out 0).trans rfl
     have hcz35_1 : wc.cell? ⟨gb653, 1, none⟩ = some (.int .i64 a0_1) := (bc BK653.out 1).trans rfl
     have hcz35_2 : wc.cell? ⟨gb653, 2, none⟩ = some (.int .i64 a1) := (bc BK653.out 2).trans rfl
     have hcz35_3 : wc.cell? ⟨gb653, 3, none⟩ = some (.string a0_3) := (bc BK653.out 3).trans rfl
     have hfz35_0 := bf BK653.out 0
     have hfz35_1 := bf BK653.out 1
     have hfz35_2 := bf BK653.out 2
     have hfz35_3 := bf BK653.out 3
     go_wp2_with (first | (go_at_call 11; (with_reducible refine (batch_Events.calls kj3 a0_0 a0_1 a1 a0_3 t657 t660 t663 t664 _ A32.out).mono ?_); rintro e w36 ⟨v658, v661, rfl, ho0, ho1, hb⟩; have n0_ := Am (Kd.S_mono (Kd.S_told (Kd.S_told (Kd.S_old (by (with_reducible repeat (first | apply Kd.S_alloc | apply Kd.S_drewN | apply Kd.S_drew)); exact HO_5.out) hb) (Kd.S_base ho0)) (Kd.R_base ho1)) (fun _ h_ => h_.1)); have n1_ := Am (Kd.R_elder' (by (with_reducible repeat (first | apply Kd.R_alloc | apply Kd.R_drewN | apply Kd.R_drew)); exact HO_6.out) (Kd.R_base ho1) hb); have n2_ := Am (Kd.S_lower (Kd.S_new' (Kd.S_new' ho0 (Kd.S_lt (by (with_reducible repeat (first | apply Kd.S_alloc | apply Kd.S_drewN | apply Kd.S_drew)); exact HO_5.out))) (Kd.R_lt (by (with_reducible repeat (first | apply Kd.R_alloc | apply Kd.R_drewN | apply Kd.R_drew)); exact HO_6.out))) (below_size (by repeat (first | (with_reducible first | exact HB.out | apply bl | apply pN | apply b1 | refine bs ?_ GE644.out | refine bs ?_ GE653.out) | exact HB.out | exact HBo.out)))); have n3_ := Am (Kd.R_lower (Kd.R_new' ho1 (Kd.R_lt (by (with_reducible repeat (first | apply Kd.R_alloc | apply Kd.R_drewN | apply Kd.R_drew)); exact HO_6.out))) (below_size (by repeat (first | (with_reducible first | exact HB.out | apply bl | apply pN | apply b1 | refine bs ?_ GE644.out | refine bs ?_ GE653.out) | exact HB.out | exact HBo.out)))); have n4_ := Am (blk_below (g := gb644) (o := .cells #[.int .i64 a0_0, .int .i64 a0_1, .int .i64 a0_2, .string a0_3] 23 (0, 0)) (by (with_reducible repeat (first | refine bn ?_ _ | refine bd ?_ | refine ba ?_ _)); exact BK644.out) hb); have n5_ := Am (blk_below (g := gb653) (o := .cells #[.int .i64 a0_0, .int .i64 a0_1, .int .i64 a1, .string a0_3] 23 (0, 0)) (by (with_reducible repeat (first | refine bn ?_ _ | refine bd ?_ | refine ba ?_ _)); exact BK653.out) hb); have n6_ := Am (below_step (by repeat (first | (with_reducible first | exact HB.out | apply bl | apply pN | apply b1 | refine bs ?_ GE644.out | refine bs ?_ GE653.out) | exact HB.out | exact HBo.out)) hb); clear HO_5; clear HO_6; clear BK644; clear BK653; clear HB; have HO_5 := n0_; have HO_6 := n1_; have HO659 := n2_; have HO662 := n3_; have BK644 := n4_; have BK653 := n5_; have HB := n6_; clear n0_ n1_ n2_ n3_ n4_ n5_ n6_; (try clear hb); (try clear hb2); (try clear hk); (try clear hi); (try clear ho0); (try clear ho1)))
     repeat (go_quiet (first | (go_at_call 11; (with_reducible refine (batch_Events.calls kj3 a0_0 a0_1 a1 a0_3 t657 t660 t663 t664 _ A32.out).mono ?_); rintro e w36 ⟨v658, v661, rfl, ho0, ho1, hb⟩; have n0_ := Am (Kd.S_mono (Kd.S_told (Kd.S_told (Kd.S_old (by (with_reducible repeat (first | apply Kd.S_alloc | apply Kd.S_drewN | apply Kd.S_drew)); exact HO_5.out) hb) (Kd.S_base ho0)) (Kd.R_base ho1)) (fun _ h_ => h_.1)); have n1_ := Am (Kd.R_elder' (by (with_reducible repeat (first | apply Kd.R_alloc | apply Kd.R_drewN | apply Kd.R_drew)); exact HO_6.out) (Kd.R_base ho1) hb); have n2_ := Am (Kd.S_lower (Kd.S_new' (Kd.S_new' ho0 (Kd.S_lt (by (with_reducible repeat (first | apply Kd.S_alloc | apply Kd.S_drewN | apply Kd.S_drew)); exact HO_5.out))) (Kd.R_lt (by (with_reducible repeat (first | apply Kd.R_alloc | apply Kd.R_drewN | apply Kd.R_drew)); exact HO_6.out))) (below_size (by repeat (first | (with_reducible first | exact HB.out | apply bl | apply pN | apply b1 | refine bs ?_ GE644.out | refine bs ?_ GE653.out) | exact HB.out | exact HBo.out)))); have n3_ := Am (Kd.R_lower (Kd.R_new' ho1 (Kd.R_lt (by (with_reducible repeat (first | apply Kd.R_alloc | apply Kd.R_drewN | apply Kd.R_drew)); exact HO_6.out))) (below_size (by repeat (first | (with_reducible first | exact HB.out | apply bl | apply pN | apply b1 | refine bs ?_ GE644.out | refine bs ?_ GE653.out) | exact HB.out | exact HBo.out)))); have n4_ := Am (blk_below (g := gb644) (o := .cells #[.int .i64 a0_0, .int .i64 a0_1, .int .i64 a0_2, .string a0_3] 23 (0, 0)) (by (with_reducible repeat (first | refine bn ?_ _ | refine bd ?_ | refine ba ?_ _)); exact BK644.out) hb); have n5_ := Am (blk_below (g := gb653) (o := .cells #[.int .i64 a0_0, .int .i64 a0_1, .int .i64 a1, .string a0_3] 23 (0, 0)) (by (with_reducible repeat (first | refine bn ?_ _ | refine bd ?_ | refine ba ?_ _)); exact BK653.out) hb); have n6_ := Am (below_step (by repeat (first | (with_reducible first | exact HB.out | apply bl | apply pN | apply b1 | refine bs ?_ GE644.out | refine bs ?_ GE653.out) | exact HB.out | exact HBo.out)) hb); clear HO_5; clear HO_6; clear BK644; clear BK653; clear HB; have HO_5 := n0_; have HO_6 := n1_; have HO659 := n2_; have HO662 := n3_; have BK644 := n4_; have BK653 := n5_; have HB := n6_; clear n0_ n1_ n2_ n3_ n4_ n5_ n6_; (try clear hb); (try clear hb2); (try clear hk); (try clear hi); (try clear ho0); (try clear ho1))); try go_wp2_with (first | (go_at_call 11; (with_reducible refine (batch_Events.calls kj3 a0_0 a0_1 a1 a0_3 t657 t660 t663 t664 _ A32.out).mono ?_); rintro e w36 ⟨v658, v661, rfl, ho0, ho1, hb⟩; have n0_ := Am (Kd.S_mono (Kd.S_told (Kd.S_told (Kd.S_old (by (with_reducible repeat (first | apply Kd.S_alloc | apply Kd.S_drewN | apply Kd.S_drew)); exact HO_5.out) hb) (Kd.S_base ho0)) (Kd.R_base ho1)) (fun _ h_ => h_.1)); have n1_ := Am (Kd.R_elder' (by (with_reducible repeat (first | apply Kd.R_alloc | apply Kd.R_drewN | apply Kd.R_drew)); exact HO_6.out) (Kd.R_base ho1) hb); have n2_ := Am (Kd.S_lower (Kd.S_new' (Kd.S_new' ho0 (Kd.S_lt (by (with_reducible repeat (first | apply Kd.S_alloc | apply Kd.S_drewN | apply Kd.S_drew)); exact HO_5.out))) (Kd.R_lt (by (with_reducible repeat (first | apply Kd.R_alloc | apply Kd.R_drewN | apply Kd.R_drew)); exact HO_6.out))) (below_size (by repeat (first | (with_reducible first | exact HB.out | apply bl | apply pN | apply b1 | refine bs ?_ GE644.out | refine bs ?_ GE653.out) | exact HB.out | exact HBo.out)))); have n3_ := Am (Kd.R_lower (Kd.R_new' ho1 (Kd.R_lt (by (with_reducible repeat (first | apply Kd.R_alloc | apply Kd.R_drewN | apply Kd.R_drew)); exact HO_6.out))) (below_size (by repeat (first | (with_reducible first | exact HB.out | apply bl | apply pN | apply b1 | refine bs ?_ GE644.out | refine bs ?_ GE653.out) | exact HB.out | exact HBo.out)))); have n4_ := Am (blk_below (g := gb644) (o := .cells #[.int .i64 a0_0, .int .i64 a0_1, .int .i64 a0_2, .string a0_3] 23 (0, 0)) (by (with_reducible repeat (first | refine bn ?_ _ | refine bd ?_ | refine ba ?_ _)); exact BK644.out) hb); have n5_ := Am (blk_below (g := gb653) (o := .cells #[.int .i64 a0_0, .int .i64 a0_1, .int .i64 a1, .string a0_3] 23 (0, 0)) (by (with_reducible repeat (first | refine bn ?_ _ | refine bd ?_ | refine ba ?_ _)); exact BK653.out) hb); have n6_ := Am (below_step (by repeat (first | (with_reducible first | exact HB.out | apply bl | apply pN | apply b1 | refine bs ?_ GE644.out | refine bs ?_ GE653.out) | exact HB.out | exact HBo.out)) hb); clear HO_5; clear HO_6; clear BK644; clear BK653; clear HB; have HO_5 := n0_; have HO_6 := n1_; have HO659 := n2_; have HO662 := n3_; have BK644 := n4_; have BK653 := n5_; have HB := n6_; clear n0_ n1_ n2_ n3_ n4_ n5_ n6_; (try clear hb); (try clear hb2); (try clear hk); (try clear hi); (try clear ho0); (try clear ho1))))
     go_loopg [14] kj3 (fun kq v14 w' => ∃ (x14_2 : Int), v14 = .int .i64 x14_2 ∧ Aside0 (shuttlecocklaw05_BatchBase.l0 kq a1 t645 t648 t657 t660 x14_2 a0_0 a0_1 a0_2 a0_3 = some r) ∧ Aside0 (kq ≤ kj3) ∧ Aside0 (Kd.S k41 41 w' w.heap.size (fun k_ => some k_ ≠ (v649 : Value).ownBlock ∧ some k_ ≠ (v658 : Value).ownBlock ∧ some k_ ≠ (v661 : Value).ownBlock) v646 t645) ∧ Aside0 (Kd.R (Kd.int .i64) 3 w' w.heap.size (fun k_ => some k_ ≠ (v661 : Value).ownBlock) v649 t648) ∧ Aside0 (Kd.S k41 41 w' w.heap.size (fun k_ => some k_ ≠ (v646 : Value).ownBlock ∧ some k_ ≠ (v649 : Value).ownBlock ∧ some k_ ≠ (v661 : Value).ownBlock) v658 t657) ∧ Aside0 (Kd.R (Kd.int .i64) 3 w' w.heap.size (fun k_ => some k_ ≠ (v649 : Value).ownBlock) v661 t660) ∧ Aside0 (w'.heap[gb644]? = some (.cells #[.int .i64 a0_0, .int .i64 a0_1, .int .i64 a0_2, .string a0_3] 23 (0, 0))) ∧ Aside0 (w'.heap[gb653]? = some (.cells #[.int .i64 a0_0, .int .i64 a0_1, .int .i64 a1, .string a0_3] 23 (0, 0))) ∧ Aside0 (Below w.heap.size w w'))
     case atStart => exact ⟨(0), (by first | rfl | (simp; done) | (simp [*]; done)), H', ⟨Nat.le_refl _⟩, ⟨by (with_reducible repeat (first | apply Kd.S_alloc | apply Kd.S_drewN | apply Kd.S_drew)); exact Kd.S_mono HO_5.out (fun _ hk => ⟨hk.1.1, ⟨hk.1.2, hk.2⟩⟩)⟩, ⟨by (with_reducible repeat (first | apply Kd.R_alloc | apply Kd.R_drewN | apply Kd.R_drew)); exact Kd.R_mono HO_6.out (fun _ hk => hk.2)⟩, ⟨by (with_reducible repeat (first | apply Kd.S_alloc | apply Kd.S_drewN | apply Kd.S_drew)); exact Kd.S_mono HO659.out (fun _ hk => ⟨hk.1.2, ⟨hk.2, hk.1.1⟩⟩)⟩, ⟨by (with_reducible repeat (first | apply Kd.R_alloc | apply Kd.R_drewN | apply Kd.R_drew)); exact Kd.R_mono HO662.out (fun _ hk => hk.2)⟩, ⟨by (with_reducible repeat (first | refine bn ?_ _ | refine bd ?_ | refine ba ?_ _)); exact BK644.out⟩, ⟨by (with_reducible repeat (first | refine bn ?_ _ | refine bd ?_ | refine ba ?_ _)); exact BK653.out⟩, ⟨by repeat (first | (with_reducible first | exact HB.out | apply bl | apply pN | apply b1 | refine bs ?_ GE644.out | refine bs ?_ GE653.out) | exact HB.out | exact HBo.out)⟩⟩
     case round =>
      clear H'
      try clear c1
      try clear c2
      try clear p2
      try clear c3
      try clear c6
      try clear c10
      try clear c13
      try clear c14
      try clear c14b0
      try clear c14b1
      try clear c16
      try clear c18
      try clear c18b0
      try clear c18b1
      try clear c21
      try clear c26
      try clear c29
      try clear c33
      try clear c33b0
      try clear c33b1
      try clear c34
      try clear hcz11_0
      try clear hcz11_1
      try clear hcz11_2
      try clear hcz11_3
      try clear hcz17_0
      try clear hcz17_1
      try clear hcz17_2
      try clear hcz17_3
      try clear hcz22_0
      try clear hcz22_1
      try clear hcz22_2
      try clear hcz22_3
      try clear hcz23_0
      try clear hcz23_1
      try clear hcz23_2
      try clear hcz23_3
      try clear hcz27_0
      try clear hcz27_1
      try clear hcz27_2
      try clear hcz27_3
      try clear hcz35_0
      try clear hcz35_1
      try clear hcz35_2
      try clear hcz35_3
      try clear hcz6_0
      try clear hcz6_1
      try clear hcz6_2
      try clear hcz6_3
      try clear hcz8_0
      try clear hcz8_1
      try clear hcz8_2
      try clear hcz8_3
      try clear hfz11_0
      try clear hfz11_1
      try clear hfz11_2
      try clear hfz11_3
      try clear hfz17_0
      try clear hfz17_1
      try clear hfz17_2
      try clear hfz17_3
      try clear hfz22_0
      try clear hfz22_1
      try clear hfz22_2
      try clear hfz22_3
      try clear hfz23_0
      try clear hfz23_1
      try clear hfz23_2
      try clear hfz23_3
      try clear hfz27_0
      try clear hfz27_1
      try clear hfz27_2
      try clear hfz27_3
      try clear hfz35_0
      try clear hfz35_1
      try clear hfz35_2
      try clear hfz35_3
      try clear hfz6_0
      try clear hfz6_1
      try clear hfz6_2
      try clear hfz6_3
      try clear hfz8_0
      try clear hfz8_1
      try clear hfz8_2
      try clear hfz8_3
      try clear p2
      obtain ⟨x14_2, rfl, HA, HK2, HO_5, HO_6, HO_10, HO_11, BK644, BK653, HB⟩ := hrel
      cases gk with
      | zero => exact absurd HA.out (by simp [shuttlecocklaw05_BatchBase.l0])
      | succ k2 =>
       have H := HA.out
       clear HA
       simp only [shuttlecocklaw05_BatchBase.l0] at H
       have HC37 := Am H
       clear H
       go_upto_region 10 with (fail)
       repeat (go_quiet (fail); go_upto_region 10 with (fail))
       go_cut [69] (fun v69 wc => ∃ (kq : Nat) (x69_36 : Bool), v69 = .bool x69_36 ∧ Aside0 (shuttlecocklaw05_BatchBase.j2 kq a1 t645 t648 t657 t660 x14_2 x69_36 a0_0 a0_1 a0_2 a0_3 = some r) ∧ Aside0 (kq ≤ k2) ∧ Aside0 (Kd.S k41 41 wc w.heap.size (fun k_ => some k_ ≠ (v649 : Value).ownBlock ∧ some k_ ≠ (v658 : Value).ownBlock ∧ some k_ ≠ (v661 : Value).ownBlock) v646 t645) ∧ Aside0 (Kd.R (Kd.int .i64) 3 wc w.heap.size (fun k_ => some k_ ≠ (v661 : Value).ownBlock) v649 t648) ∧ Aside0 (Kd.S k41 41 wc w.heap.size (fun k_ => some k_ ≠ (v646 : Value).ownBlock ∧ some k_ ≠ (v649 : Value).ownBlock ∧ some k_ ≠ (v661 : Value).ownBlock) v658 t657) ∧ Aside0 (Kd.R (Kd.int .i64) 3 wc w.heap.size (fun k_ => some k_ ≠ (v649 : Value).ownBlock) v661 t660) ∧ Aside0 (wc.heap[gb644]? = some (.cells #[.int .i64 a0_0, .int .i64 a0_1, .int .i64 a0_2, .string a0_3] 23 (0, 0))) ∧ Aside0 (wc.heap[gb653]? = some (.cells #[.int .i64 a0_0, .int .i64 a0_1, .int .i64 a1, .string a0_3] 23 (0, 0))) ∧ Aside0 (Below w.heap.size w wc))
       case first =>
        have H := HC37.out
        clear HC37
        by_cases c38 : x14_2 < (t648.length : Int)
        ·
         rw [if_pos c38] at H
         have c38b0 : decide (x14_2 < (t648.length : Int)) = true := decide_eq_true c38
         clear c38
         (first | rw [c38b0] | (simp only [i64_w, i32_w]; rw [c38b0]) | skip)
         have H' := Am H
         clear H
         obtain ⟨Ao39, co39, eo39⟩ := Kd.R_slice HO_6.out
         subst eo39
         obtain ⟨Ao40, co40, eo40⟩ := Kd.R_slice HO_11.out
         subst eo40
         go_wp2
         repeat (go_quiet (fail); try go_wp2)
         go_meet
         case rel => exact ⟨_, (decide (x14_2 < (t660.length : Int))), (by first | rfl | (simp; done) | (simp [*]; done)), H', ⟨by have := HJ3.out; have := HK2.out; first | omega | exact Nat.le_refl _⟩, ⟨by (with_reducible repeat (first | apply Kd.S_alloc | apply Kd.S_drewN | apply Kd.S_drew)); exact HO_5.out⟩, ⟨by (with_reducible repeat (first | apply Kd.R_alloc | apply Kd.R_drewN | apply Kd.R_drew)); exact HO_6.out⟩, ⟨by (with_reducible repeat (first | apply Kd.S_alloc | apply Kd.S_drewN | apply Kd.S_drew)); exact HO_10.out⟩, ⟨by (with_reducible repeat (first | apply Kd.R_alloc | apply Kd.R_drewN | apply Kd.R_drew)); exact HO_11.out⟩, ⟨by (with_reducible repeat (first | refine bn ?_ _ | refine bd ?_ | refine ba ?_ _)); exact BK644.out⟩, ⟨by (with_reducible repeat (first | refine bn ?_ _ | refine bd ?_ | refine ba ?_ _)); exact BK653.out⟩, ⟨by repeat (first | (with_reducible first | exact HB.out | apply bl | apply pN | apply b1 | refine bs ?_ GE644.out | refine bs ?_ GE653.out) | exact HB.out | exact HBo.out)⟩⟩
        ·
         rw [if_neg c38] at H
         have c38b0 : decide (x14_2 < (t648.length : Int)) = false := decide_eq_false c38
         clear c38
         (first | rw [c38b0] | (simp only [i64_w, i32_w]; rw [c38b0]) | skip)
         have H' := Am H
         clear H
         obtain ⟨Ao41, co41, eo41⟩ := Kd.R_slice HO_6.out
         subst eo41
         go_wp2
         repeat (go_quiet (fail); try go_wp2)
         go_meet
         case rel => exact ⟨_, (false), (by first | rfl | (simp; done) | (simp [*]; done)), H', ⟨by have := HJ3.out; have := HK2.out; first | omega | exact Nat.le_refl _⟩, ⟨by (with_reducible repeat (first | apply Kd.S_alloc | apply Kd.S_drewN | apply Kd.S_drew)); exact HO_5.out⟩, ⟨by (with_reducible repeat (first | apply Kd.R_alloc | apply Kd.R_drewN | apply Kd.R_drew)); exact HO_6.out⟩, ⟨by (with_reducible repeat (first | apply Kd.S_alloc | apply Kd.S_drewN | apply Kd.S_drew)); exact HO_10.out⟩, ⟨by (with_reducible repeat (first | apply Kd.R_alloc | apply Kd.R_drewN | apply Kd.R_drew)); exact HO_11.out⟩, ⟨by (with_reducible repeat (first | refine bn ?_ _ | refine bd ?_ | refine ba ?_ _)); exact BK644.out⟩, ⟨by (with_reducible repeat (first | refine bn ?_ _ | refine bd ?_ | refine ba ?_ _)); exact BK653.out⟩, ⟨by repeat (first | (with_reducible first | exact HB.out | apply bl | apply pN | apply b1 | refine bs ?_ GE644.out | refine bs ?_ GE653.out) | exact HB.out | exact HBo.out)⟩⟩
       case rest =>
        clear HC37
        try clear c1
        try clear c2
        try clear p2
        try clear c3
        try clear c6
        try clear c10
        try clear c13
        try clear c14
        try clear c14b0
        try clear c14b1
        try clear c16
        try clear c18
        try clear c18b0
        try clear c18b1
        try clear c21
        try clear c26
        try clear c29
        try clear c33
        try clear c33b0
        try clear c33b1
        try clear c34
        try clear c38
        try clear c38b0
        try clear hcz11_0
        try clear hcz11_1
        try clear hcz11_2
        try clear hcz11_3
        try clear hcz17_0
        try clear hcz17_1
        try clear hcz17_2
        try clear hcz17_3
        try clear hcz22_0
        try clear hcz22_1
        try clear hcz22_2
        try clear hcz22_3
        try clear hcz23_0
        try clear hcz23_1
        try clear hcz23_2
        try clear hcz23_3
        try clear hcz27_0
        try clear hcz27_1
        try clear hcz27_2
        try clear hcz27_3
        try clear hcz35_0
        try clear hcz35_1
        try clear hcz35_2
        try clear hcz35_3
        try clear hcz6_0
        try clear hcz6_1
        try clear hcz6_2
        try clear hcz6_3
        try clear hcz8_0
        try clear hcz8_1
        try clear hcz8_2
        try clear hcz8_3
        try clear hfz11_0
        try clear hfz11_1
        try clear hfz11_2
        try clear hfz11_3
        try clear hfz17_0
        try clear hfz17_1
        try clear hfz17_2
        try clear hfz17_3
        try clear hfz22_0
        try clear hfz22_1
        try clear hfz22_2
        try clear hfz22_3
        try clear hfz23_0
        try clear hfz23_1
        try clear hfz23_2
        try clear hfz23_3
        try clear hfz27_0
        try clear hfz27_1
        try clear hfz27_2
        try clear hfz27_3
        try clear hfz35_0
        try clear hfz35_1
        try clear hfz35_2
        try clear hfz35_3
        try clear hfz6_0
        try clear hfz6_1
        try clear hfz6_2
        try clear hfz6_3
        try clear hfz8_0
        try clear hfz8_1
        try clear hfz8_2
        try clear hfz8_3
        try clear p2
        obtain ⟨kq, x69_36, rfl, HA, HJ36, HO_5, HO_6, HO_10, HO_11, BK644, BK653, HB⟩ := hcut
        cases kq with
        | zero => exact absurd HA.out (by simp [shuttlecocklaw05_BatchBase.j2])
        | succ kj36 =>
         have H := HA.out
         clear HA
         simp only [shuttlecocklaw05_BatchBase.j2] at H
         by_cases c42 : x69_36 = true
         ·
          subst c42
          have H1 : (if 0 ≤ x14_2 then (if x14_2 < (t660.length : Int) then (if x14_2 < (t648.length : Int) then (if (wrap64 ((rd t660 x14_2) - (rd t648 x14_2))) = (wrap64 (a1 - a0_2)) then (shuttlecocklaw05_BatchBase.l0 kj36 a1 t645 t648 t657 t660 (wrap64 (x14_2 + 1)) a0_0 a0_1 a0_2 a0_3) else (none)) else (none)) else (none)) else (none)) = some r := by rw [if_pos rfl] at H; exact H
          clear H
          have H := H1
          clear H1
          by_cases c43 : 0 ≤ x14_2
          ·
           rw [if_pos c43] at H
           have c43b0 : decide (0 ≤ x14_2) = true := decide_eq_true c43
           clear c43
           by_cases c44 : x14_2 < (t660.length : Int)
           ·
            rw [if_pos c44] at H
            have c44b0 : decide (x14_2 < (t660.length : Int)) = true := decide_eq_true c44
            clear c44
            by_cases c45 : x14_2 < (t648.length : Int)
            ·
             rw [if_pos c45] at H
             have c45b0 : decide (x14_2 < (t648.length : Int)) = true := decide_eq_true c45
             clear c45
             by_cases c46 : (wrap64 ((rd t660 x14_2) - (rd t648 x14_2))) = (wrap64 (a1 - a0_2))
             ·
              rw [if_pos c46] at H
              have c46b0 : ((wrap64 ((rd t660 x14_2) - (rd t648 x14_2))) == (wrap64 (a1 - a0_2))) = true := beq_iff_eq.mpr c46
              have c46b1 : ((wrap64 ((rd t660 x14_2) - (rd t648 x14_2))) != (wrap64 (a1 - a0_2))) = false := bne_eq_false_iff_eq.mpr c46
              clear c46
              have H' := Am H
              clear H
              obtain ⟨Ao47, co47, eo47⟩ := Kd.R_slice HO_11.out
              subst eo47
              have p665 : 0 ≤ (x14_2 : Int) := of_decide_eq_true (by first | (with_reducible assumption) | assumption)
              have q665 : x14_2 < (t660.length : Int) := of_decide_eq_true (by first | (with_reducible assumption) | assumption)
              obtain ⟨ad665, e665, hx665_0⟩ := Kd.at_int (Kd.R_reads' HO_11.out).2.2 x14_2 p665 q665
              cases e665
              replace p665 := eq_true p665
              replace q665 := eq_true q665
              obtain ⟨Ao48, co48, eo48⟩ := Kd.R_slice HO_6.out
              subst eo48
              have p666 : 0 ≤ (x14_2 : Int) := of_decide_eq_true (by first | (with_reducible assumption) | assumption)
              have q666 : x14_2 < (t648.length : Int) := of_decide_eq_true (by first | (with_reducible assumption) | assumption)
              obtain ⟨ad666, e666, hx666_0⟩ := Kd.at_int (Kd.R_reads' HO_6.out).2.2 x14_2 p666 q666
              cases e666
              replace p666 := eq_true p666
              replace q666 := eq_true q666
              have hnb49 := NB644_653.out
              have hnc49 := NB653_644.out
              have hcz50_0 : wc.cell? ⟨gb644, 0, none⟩ = some (.int .i64 a0_0) := (bc BK644.out 0).trans rfl
              have hcz50_1 : wc.cell? ⟨gb644, 1, none⟩ = some (.int .i64 a0_1) := (bc BK644.out 1).trans rfl
              have hcz50_2 : wc.cell? ⟨gb644, 2, none⟩ = some (.int .i64 a0_2) := (bc BK644.out 2).trans rfl
              have hcz50_3 : wc.cell? ⟨gb644, 3, none⟩ = some (.string a0_3) := (bc BK644.out 3).trans rfl
              have hfz50_0 := bf BK644.out 0
              have hfz50_1 := bf BK644.out 1
              have hfz50_2 := bf BK644.out 2
              have hfz50_3 := bf BK644.out 3
              go_wp2
              repeat (go_quiet (fail); try go_wp2)
              go_roundg kj36
              case measure => have := HJ3.out; have := HK2.out; have := HJ36.out; omega
              case rel => exact ⟨(wrap64 (x14_2 + 1)), (by first | rfl | (simp; done) | (simp [*]; done)), H', ⟨by have := HJ3.out; have := HK2.out; have := HJ36.out; omega⟩, ⟨by (with_reducible repeat (first | apply Kd.S_alloc | apply Kd.S_drewN | apply Kd.S_drew)); exact HO_5.out⟩, ⟨by (with_reducible repeat (first | apply Kd.R_alloc | apply Kd.R_drewN | apply Kd.R_drew)); exact HO_6.out⟩, ⟨by (with_reducible repeat (first | apply Kd.S_alloc | apply Kd.S_drewN | apply Kd.S_drew)); exact HO_10.out⟩, ⟨by (with_reducible repeat (first | apply Kd.R_alloc | apply Kd.R_drewN | apply Kd.R_drew)); exact HO_11.out⟩, ⟨by (with_reducible repeat (first | refine bn ?_ _ | refine bd ?_ | refine ba ?_ _)); exact BK644.out⟩, ⟨by (with_reducible repeat (first | refine bn ?_ _ | refine bd ?_ | refine ba ?_ _)); exact BK653.out⟩, ⟨by repeat (first | (with_reducible first | exact HB.out | apply bl | apply pN | apply b1 | refine bs ?_ GE644.out | refine bs ?_ GE653.out) | exact HB.out | exact HBo.out)⟩⟩
             ·
              rw [if_neg c46] at H
              exact absurd H (by simp)
            ·
             rw [if_neg c45] at H
             exact absurd H (by simp)
           ·
            rw [if_neg c44] at H
            exact absurd H (by simp)
          ·
           rw [if_neg c43] at H
           exact absurd H (by simp)
         ·
          replace c42 := Bool.eq_false_iff.mpr c42
          subst c42
          have H1 : ((shuttlecockref04_All.f kj36 t657 t645).bind fun t667 => (if t667 = true then (some ((t660.length : Int) == (t648.length : Int))) else (none))) = some r := by rw [if_neg (show ¬ (false = true) by decide)] at H; exact H
          clear H
          have H := H1
          clear H1
          replace H := ob H
          obtain ⟨t667, A510, H⟩ := H
          replace H : (if t667 = true then (some ((t660.length : Int) == (t648.length : Int))) else (none)) = some r := H
          have A51 := Am A510
          clear A510
          by_cases c52 : t667 = true
          ·
           subst c52
           have H1 : (some ((t660.length : Int) == (t648.length : Int))) = some r := by rw [if_pos rfl] at H; exact H
           clear H
           have H := H1
           clear H1
           obtain rfl := Option.some.inj H
           obtain ⟨Ao53, co53, eo53⟩ := Kd.S_slice HO_10.out
           subst eo53
           obtain ⟨Ao54, co54, eo54⟩ := Kd.S_slice HO_5.out
           subst eo54
           go_wp2_with (first | (go_at_call 17; (with_reducible refine (shuttlecockref04_All.calls kj36 _ _ t657 _ _ t645 true _ ?side1 ?side2 ?side3 ?side4 A51.out).mono ?_); (case side1 => repeat (first | exact (Kd.S_reads' HO_10.out).2.2 | (with_reducible refine Kd.C_alloc ?_ _) | (with_reducible refine Kd.C_drewN ?_ _) | (with_reducible refine Kd.C_drew ?_))); (case side2 => exact (Kd.S_reads' HO_10.out).2.1); (case side3 => repeat (first | exact (Kd.S_reads' HO_5.out).2.2 | (with_reducible refine Kd.C_alloc ?_ _) | (with_reducible refine Kd.C_drewN ?_ _) | (with_reducible refine Kd.C_drew ?_))); (case side4 => exact (Kd.S_reads' HO_5.out).2.1); rintro e w55 ⟨rfl, hb⟩; have n0_ := Am (Kd.S_below (by (with_reducible repeat (first | apply Kd.S_alloc | apply Kd.S_drewN | apply Kd.S_drew)); exact HO_5.out) hb); have n1_ := Am (Kd.R_below (by (with_reducible repeat (first | apply Kd.R_alloc | apply Kd.R_drewN | apply Kd.R_drew)); exact HO_6.out) hb); have n2_ := Am (Kd.S_below (by (with_reducible repeat (first | apply Kd.S_alloc | apply Kd.S_drewN | apply Kd.S_drew)); exact HO_10.out) hb); have n3_ := Am (Kd.R_below (by (with_reducible repeat (first | apply Kd.R_alloc | apply Kd.R_drewN | apply Kd.R_drew)); exact HO_11.out) hb); have n4_ := Am (blk_below (g := gb644) (o := .cells #[.int .i64 a0_0, .int .i64 a0_1, .int .i64 a0_2, .string a0_3] 23 (0, 0)) (by (with_reducible repeat (first | refine bn ?_ _ | refine bd ?_ | refine ba ?_ _)); exact BK644.out) hb); have n5_ := Am (blk_below (g := gb653) (o := .cells #[.int .i64 a0_0, .int .i64 a0_1, .int .i64 a1, .string a0_3] 23 (0, 0)) (by (with_reducible repeat (first | refine bn ?_ _ | refine bd ?_ | refine ba ?_ _)); exact BK653.out) hb); have n6_ := Am (below_step (by repeat (first | (with_reducible first | exact HB.out | apply bl | apply pN | apply b1 | refine bs ?_ GE644.out | refine bs ?_ GE653.out) | exact HB.out | exact HBo.out)) hb); clear HO_5; clear HO_6; clear HO_10; clear HO_11; clear BK644; clear BK653; clear HB; have HO_5 := n0_; have HO_6 := n1_; have HO_10 := n2_; have HO_11 := n3_; have BK644 := n4_; have BK653 := n5_; have HB := n6_; clear n0_ n1_ n2_ n3_ n4_ n5_ n6_; (try clear hb); (try clear hb2); (try clear hk); (try clear hi); obtain ⟨Ao56, co56, eo56⟩ := Kd.R_slice HO_11.out; subst eo56; obtain ⟨Ao57, co57, eo57⟩ := Kd.R_slice HO_6.out; subst eo57))
           repeat (go_quiet (first | (go_at_call 17; (with_reducible refine (shuttlecockref04_All.calls kj36 _ _ t657 _ _ t645 true _ ?side1 ?side2 ?side3 ?side4 A51.out).mono ?_); (case side1 => repeat (first | exact (Kd.S_reads' HO_10.out).2.2 | (with_reducible refine Kd.C_alloc ?_ _) | (with_reducible refine Kd.C_drewN ?_ _) | (with_reducible refine Kd.C_drew ?_))); (case side2 => exact (Kd.S_reads' HO_10.out).2.1); (case side3 => repeat (first | exact (Kd.S_reads' HO_5.out).2.2 | (with_reducible refine Kd.C_alloc ?_ _) | (with_reducible refine Kd.C_drewN ?_ _) | (with_reducible refine Kd.C_drew ?_))); (case side4 => exact (Kd.S_reads' HO_5.out).2.1); rintro e w55 ⟨rfl, hb⟩; have n0_ := Am (Kd.S_below (by (with_reducible repeat (first | apply Kd.S_alloc | apply Kd.S_drewN | apply Kd.S_drew)); exact HO_5.out) hb); have n1_ := Am (Kd.R_below (by (with_reducible repeat (first | apply Kd.R_alloc | apply Kd.R_drewN | apply Kd.R_drew)); exact HO_6.out) hb); have n2_ := Am (Kd.S_below (by (with_reducible repeat (first | apply Kd.S_alloc | apply Kd.S_drewN | apply Kd.S_drew)); exact HO_10.out) hb); have n3_ := Am (Kd.R_below (by (with_reducible repeat (first | apply Kd.R_alloc | apply Kd.R_drewN | apply Kd.R_drew)); exact HO_11.out) hb); have n4_ := Am (blk_below (g := gb644) (o := .cells #[.int .i64 a0_0, .int .i64 a0_1, .int .i64 a0_2, .string a0_3] 23 (0, 0)) (by (with_reducible repeat (first | refine bn ?_ _ | refine bd ?_ | refine ba ?_ _)); exact BK644.out) hb); have n5_ := Am (blk_below (g := gb653) (o := .cells #[.int .i64 a0_0, .int .i64 a0_1, .int .i64 a1, .string a0_3] 23 (0, 0)) (by (with_reducible repeat (first | refine bn ?_ _ | refine bd ?_ | refine ba ?_ _)); exact BK653.out) hb); have n6_ := Am (below_step (by repeat (first | (with_reducible first | exact HB.out | apply bl | apply pN | apply b1 | refine bs ?_ GE644.out | refine bs ?_ GE653.out) | exact HB.out | exact HBo.out)) hb); clear HO_5; clear HO_6; clear HO_10; clear HO_11; clear BK644; clear BK653; clear HB; have HO_5 := n0_; have HO_6 := n1_; have HO_10 := n2_; have HO_11 := n3_; have BK644 := n4_; have BK653 := n5_; have HB := n6_; clear n0_ n1_ n2_ n3_ n4_ n5_ n6_; (try clear hb); (try clear hb2); (try clear hk); (try clear hi); obtain ⟨Ao56, co56, eo56⟩ := Kd.R_slice HO_11.out; subst eo56; obtain ⟨Ao57, co57, eo57⟩ := Kd.R_slice HO_6.out; subst eo57)); try go_wp2_with (first | (go_at_call 17; (with_reducible refine (shuttlecockref04_All.calls kj36 _ _ t657 _ _ t645 true _ ?side1 ?side2 ?side3 ?side4 A51.out).mono ?_); (case side1 => repeat (first | exact (Kd.S_reads' HO_10.out).2.2 | (with_reducible refine Kd.C_alloc ?_ _) | (with_reducible refine Kd.C_drewN ?_ _) | (with_reducible refine Kd.C_drew ?_))); (case side2 => exact (Kd.S_reads' HO_10.out).2.1); (case side3 => repeat (first | exact (Kd.S_reads' HO_5.out).2.2 | (with_reducible refine Kd.C_alloc ?_ _) | (with_reducible refine Kd.C_drewN ?_ _) | (with_reducible refine Kd.C_drew ?_))); (case side4 => exact (Kd.S_reads' HO_5.out).2.1); rintro e w55 ⟨rfl, hb⟩; have n0_ := Am (Kd.S_below (by (with_reducible repeat (first | apply Kd.S_alloc | apply Kd.S_drewN | apply Kd.S_drew)); exact HO_5.out) hb); have n1_ := Am (Kd.R_below (by (with_reducible repeat (first | apply Kd.R_alloc | apply Kd.R_drewN | apply Kd.R_drew)); exact HO_6.out) hb); have n2_ := Am (Kd.S_below (by (with_reducible repeat (first | apply Kd.S_alloc | apply Kd.S_drewN | apply Kd.S_drew)); exact HO_10.out) hb); have n3_ := Am (Kd.R_below (by (with_reducible repeat (first | apply Kd.R_alloc | apply Kd.R_drewN | apply Kd.R_drew)); exact HO_11.out) hb); have n4_ := Am (blk_below (g := gb644) (o := .cells #[.int .i64 a0_0, .int .i64 a0_1, .int .i64 a0_2, .string a0_3] 23 (0, 0)) (by (with_reducible repeat (first | refine bn ?_ _ | refine bd ?_ | refine ba ?_ _)); exact BK644.out) hb); have n5_ := Am (blk_below (g := gb653) (o := .cells #[.int .i64 a0_0, .int .i64 a0_1, .int .i64 a1, .string a0_3] 23 (0, 0)) (by (with_reducible repeat (first | refine bn ?_ _ | refine bd ?_ | refine ba ?_ _)); exact BK653.out) hb); have n6_ := Am (below_step (by repeat (first | (with_reducible first | exact HB.out | apply bl | apply pN | apply b1 | refine bs ?_ GE644.out | refine bs ?_ GE653.out) | exact HB.out | exact HBo.out)) hb); clear HO_5; clear HO_6; clear HO_10; clear HO_11; clear BK644; clear BK653; clear HB; have HO_5 := n0_; have HO_6 := n1_; have HO_10 := n2_; have HO_11 := n3_; have BK644 := n4_; have BK653 := n5_; have HB := n6_; clear n0_ n1_ n2_ n3_ n4_ n5_ n6_; (try clear hb); (try clear hb2); (try clear hk); (try clear hi); obtain ⟨Ao56, co56, eo56⟩ := Kd.R_slice HO_11.out; subst eo56; obtain ⟨Ao57, co57, eo57⟩ := Kd.R_slice HO_6.out; subst eo57)))
           go_ret
           exact ⟨by first | rfl | (simp [errW_none, errW_some] <;> rfl) | (simp [*, errW_none, errW_some] <;> rfl) | (simp [Aid.ne_nil, Aid.eq_nil, errW_none, errW_some]; done), by repeat (first | (with_reducible first | exact HB.out | apply bl | apply pN | apply b1 | refine bs ?_ GE644.out | refine bs ?_ GE653.out) | exact HB.out | exact HBo.out)⟩
          ·
           replace c52 := Bool.eq_false_iff.mpr c52
           subst c52
           have H1 : (none) = some r := by rw [if_neg (show ¬ (false = true) by decide)] at H; exact H
           clear H
           have H := H1
           clear H1
           exact absurd H (by simp)
    ·
     rw [if_neg c33] at H
     have c33b0 : (t664 == 0) = false := beq_eq_false_iff_ne.mpr c33
     have c33b1 : (t664 != 0) = true := bne_iff_ne.mpr c33
     by_cases c58 : t664 = 11
     ·
      rw [if_pos c58] at H
      have c58b0 : (t664 == 11) = true := beq_iff_eq.mpr c58
      have c58b1 : (t664 != 11) = false := bne_eq_false_iff_eq.mpr c58
      clear c58
      obtain rfl := Option.some.inj H
      have hnb59 := NB653_644.out
      have hnc59 := NB644_653.out
      have hcz60_0 : wc.cell? ⟨gb653, 0, none⟩ = some (.int .i64 a0_0) := (bc BK653.out 0).trans rfl
      have hcz60_1 : wc.cell? ⟨gb653, 1, none⟩ = some (.int .i64 a0_1) := (bc BK653.out 1).trans rfl
      have hcz60_2 : wc.cell? ⟨gb653, 2, none⟩ = some (.int .i64 a1) := (bc BK653.out 2).trans rfl
      have hcz60_3 : wc.cell? ⟨gb653, 3, none⟩ = some (.string a0_3) := (bc BK653.out 3).trans rfl
      have hfz60_0 := bf BK653.out 0
      have hfz60_1 := bf BK653.out 1
      have hfz60_2 := bf BK653.out 2
      have hfz60_3 := bf BK653.out 3
      go_wp2_with (first | (go_at_call 11; (with_reducible refine (batch_Events.calls kj3 a0_0 a0_1 a1 a0_3 t657 t660 t663 t664 _ A32.out).mono ?_); rintro e w61 ⟨v658, v661, rfl, ho0, ho1, hb⟩; have n0_ := Am (Kd.S_mono (Kd.S_told (Kd.S_told (Kd.S_old (by (with_reducible repeat (first | apply Kd.S_alloc | apply Kd.S_drewN | apply Kd.S_drew)); exact HO_5.out) hb) (Kd.S_base ho0)) (Kd.R_base ho1)) (fun _ h_ => h_.1)); have n1_ := Am (Kd.R_elder' (by (with_reducible repeat (first | apply Kd.R_alloc | apply Kd.R_drewN | apply Kd.R_drew)); exact HO_6.out) (Kd.R_base ho1) hb); have n2_ := Am (Kd.S_lower (Kd.S_new' (Kd.S_new' ho0 (Kd.S_lt (by (with_reducible repeat (first | apply Kd.S_alloc | apply Kd.S_drewN | apply Kd.S_drew)); exact HO_5.out))) (Kd.R_lt (by (with_reducible repeat (first | apply Kd.R_alloc | apply Kd.R_drewN | apply Kd.R_drew)); exact HO_6.out))) (below_size (by repeat (first | (with_reducible first | exact HB.out | apply bl | apply pN | apply b1 | refine bs ?_ GE644.out | refine bs ?_ GE653.out) | exact HB.out | exact HBo.out)))); have n3_ := Am (Kd.R_lower (Kd.R_new' ho1 (Kd.R_lt (by (with_reducible repeat (first | apply Kd.R_alloc | apply Kd.R_drewN | apply Kd.R_drew)); exact HO_6.out))) (below_size (by repeat (first | (with_reducible first | exact HB.out | apply bl | apply pN | apply b1 | refine bs ?_ GE644.out | refine bs ?_ GE653.out) | exact HB.out | exact HBo.out)))); have n4_ := Am (blk_below (g := gb644) (o := .cells #[.int .i64 a0_0, .int .i64 a0_1, .int .i64 a0_2, .string a0_3] 23 (0, 0)) (by (with_reducible repeat (first | refine bn ?_ _ | refine bd ?_ | refine ba ?_ _)); exact BK644.out) hb); have n5_ := Am (blk_below (g := gb653) (o := .cells #[.int .i64 a0_0, .int .i64 a0_1, .int .i64 a1, .string a0_3] 23 (0, 0)) (by (with_reducible repeat (first | refine bn ?_ _ | refine bd ?_ | refine ba ?_ _)); exact BK653.out) hb); have n6_ := Am (below_step (by repeat (first | (with_reducible first | exact HB.out | apply bl | apply pN | apply b1 | refine bs ?_ GE644.out | refine bs ?_ GE653.out) | exact HB.out | exact HBo.out)) hb); clear HO_5; clear HO_6; clear BK644; clear BK653; clear HB; have HO_5 := n0_; have HO_6 := n1_; have HO659 := n2_; have HO662 := n3_; have BK644 := n4_; have BK653 := n5_; have HB := n6_; clear n0_ n1_ n2_ n3_ n4_ n5_ n6_; (try clear hb); (try clear hb2); (try clear hk); (try clear hi); (try clear ho0); (try clear ho1); have hcz62_0 : w61.cell? ⟨gb644, 0, none⟩ = some (.int .i64 a0_0) := (bc BK644.out 0).trans rfl; have hcz62_1 : w61.cell? ⟨gb644, 1, none⟩ = some (.int .i64 a0_1) := (bc BK644.out 1).trans rfl; have hcz62_2 : w61.cell? ⟨gb644, 2, none⟩ = some (.int .i64 a0_2) := (bc BK644.out 2).trans rfl; have hcz62_3 : w61.cell? ⟨gb644, 3, none⟩ = some (.string a0_3) := (bc BK644.out 3).trans rfl; have hfz62_0 := bf BK644.out 0; have hfz62_1 := bf BK644.out 1; have hfz62_2 := bf BK644.out 2; have hfz62_3 := bf BK644.out 3))
      repeat (go_quiet (first | (go_at_call 11; (with_reducible refine (batch_Events.calls kj3 a0_0 a0_1 a1 a0_3 t657 t660 t663 t664 _ A32.out).mono ?_); rintro e w61 ⟨v658, v661, rfl, ho0, ho1, hb⟩; have n0_ := Am (Kd.S_mono (Kd.S_told (Kd.S_told (Kd.S_old (by (with_reducible repeat (first | apply Kd.S_alloc | apply Kd.S_drewN | apply Kd.S_drew)); exact HO_5.out) hb) (Kd.S_base ho0)) (Kd.R_base ho1)) (fun _ h_ => h_.1)); have n1_ := Am (Kd.R_elder' (by (with_reducible repeat (first | apply Kd.R_alloc | apply Kd.R_drewN | apply Kd.R_drew)); exact HO_6.out) (Kd.R_base ho1) hb); have n2_ := Am (Kd.S_lower (Kd.S_new' (Kd.S_new' ho0 (Kd.S_lt (by (with_reducible repeat (first | apply Kd.S_alloc | apply Kd.S_drewN | apply Kd.S_drew)); exact HO_5.out))) (Kd.R_lt (by (with_reducible repeat (first | apply Kd.R_alloc | apply Kd.R_drewN | apply Kd.R_drew)); exact HO_6.out))) (below_size (by repeat (first | (with_reducible first | exact HB.out | apply bl | apply pN | apply b1 | refine bs ?_ GE644.out | refine bs ?_ GE653.out) | exact HB.out | exact HBo.out)))); have n3_ := Am (Kd.R_lower (Kd.R_new' ho1 (Kd.R_lt (by (with_reducible repeat (first | apply Kd.R_alloc | apply Kd.R_drewN | apply Kd.R_drew)); exact HO_6.out))) (below_size (by repeat (first | (with_reducible first | exact HB.out | apply bl | apply pN | apply b1 | refine bs ?_ GE644.out | refine bs ?_ GE653.out) | exact HB.out | exact HBo.out)))); have n4_ := Am (blk_below (g := gb644) (o := .cells #[.int .i64 a0_0, .int .i64 a0_1, .int .i64 a0_2, .string a0_3] 23 (0, 0)) (by (with_reducible repeat (first | refine bn ?_ _ | refine bd ?_ | refine ba ?_ _)); exact BK644.out) hb); have n5_ := Am (blk_below (g := gb653) (o := .cells #[.int .i64 a0_0, .int .i64 a0_1, .int .i64 a1, .string a0_3] 23 (0, 0)) (by (with_reducible repeat (first | refine bn ?_ _ | refine bd ?_ | refine ba ?_ _)); exact BK653.out) hb); have n6_ := Am (below_step (by repeat (first | (with_reducible first | exact HB.out | apply bl | apply pN | apply b1 | refine bs ?_ GE644.out | refine bs ?_ GE653.out) | exact HB.out | exact HBo.out)) hb); clear HO_5; clear HO_6; clear BK644; clear BK653; clear HB; have HO_5 := n0_; have HO_6 := n1_; have HO659 := n2_; have HO662 := n3_; have BK644 := n4_; have BK653 := n5_; have HB := n6_; clear n0_ n1_ n2_ n3_ n4_ n5_ n6_; (try clear hb); (try clear hb2); (try clear hk); (try clear hi); (try clear ho0); (try clear ho1); have hcz62_0 : w61.cell? ⟨gb644, 0, none⟩ = some (.int .i64 a0_0) := (bc BK644.out 0).trans rfl; have hcz62_1 : w61.cell? ⟨gb644, 1, none⟩ = some (.int .i64 a0_1) := (bc BK644.out 1).trans rfl; have hcz62_2 : w61.cell? ⟨gb644, 2, none⟩ = some (.int .i64 a0_2) := (bc BK644.out 2).trans rfl; have hcz62_3 : w61.cell? ⟨gb644, 3, none⟩ = some (.string a0_3) := (bc BK644.out 3).trans rfl; have hfz62_0 := bf BK644.out 0; have hfz62_1 := bf BK644.out 1; have hfz62_2 := bf BK644.out 2; have hfz62_3 := bf BK644.out 3)); try go_wp2_with (first | (go_at_call 11; (with_reducible refine (batch_Events.calls kj3 a0_0 a0_1 a1 a0_3 t657 t660 t663 t664 _ A32.out).mono ?_); rintro e w61 ⟨v658, v661, rfl, ho0, ho1, hb⟩; have n0_ := Am (Kd.S_mono (Kd.S_told (Kd.S_told (Kd.S_old (by (with_reducible repeat (first | apply Kd.S_alloc | apply Kd.S_drewN | apply Kd.S_drew)); exact HO_5.out) hb) (Kd.S_base ho0)) (Kd.R_base ho1)) (fun _ h_ => h_.1)); have n1_ := Am (Kd.R_elder' (by (with_reducible repeat (first | apply Kd.R_alloc | apply Kd.R_drewN | apply Kd.R_drew)); exact HO_6.out) (Kd.R_base ho1) hb); have n2_ := Am (Kd.S_lower (Kd.S_new' (Kd.S_new' ho0 (Kd.S_lt (by (with_reducible repeat (first | apply Kd.S_alloc | apply Kd.S_drewN | apply Kd.S_drew)); exact HO_5.out))) (Kd.R_lt (by (with_reducible repeat (first | apply Kd.R_alloc | apply Kd.R_drewN | apply Kd.R_drew)); exact HO_6.out))) (below_size (by repeat (first | (with_reducible first | exact HB.out | apply bl | apply pN | apply b1 | refine bs ?_ GE644.out | refine bs ?_ GE653.out) | exact HB.out | exact HBo.out)))); have n3_ := Am (Kd.R_lower (Kd.R_new' ho1 (Kd.R_lt (by (with_reducible repeat (first | apply Kd.R_alloc | apply Kd.R_drewN | apply Kd.R_drew)); exact HO_6.out))) (below_size (by repeat (first | (with_reducible first | exact HB.out | apply bl | apply pN | apply b1 | refine bs ?_ GE644.out | refine bs ?_ GE653.out) | exact HB.out | exact HBo.out)))); have n4_ := Am (blk_below (g := gb644) (o := .cells #[.int .i64 a0_0, .int .i64 a0_1, .int .i64 a0_2, .string a0_3] 23 (0, 0)) (by (with_reducible repeat (first | refine bn ?_ _ | refine bd ?_ | refine ba ?_ _)); exact BK644.out) hb); have n5_ := Am (blk_below (g := gb653) (o := .cells #[.int .i64 a0_0, .int .i64 a0_1, .int .i64 a1, .string a0_3] 23 (0, 0)) (by (with_reducible repeat (first | refine bn ?_ _ | refine bd ?_ | refine ba ?_ _)); exact BK653.out) hb); have n6_ := Am (below_step (by repeat (first | (with_reducible first | exact HB.out | apply bl | apply pN | apply b1 | refine bs ?_ GE644.out | refine bs ?_ GE653.out) | exact HB.out | exact HBo.out)) hb); clear HO_5; clear HO_6; clear BK644; clear BK653; clear HB; have HO_5 := n0_; have HO_6 := n1_; have HO659 := n2_; have HO662 := n3_; have BK644 := n4_; have BK653 := n5_; have HB := n6_; clear n0_ n1_ n2_ n3_ n4_ n5_ n6_; (try clear hb); (try clear hb2); (try clear hk); (try clear hi); (try clear ho0); (try clear ho1); have hcz62_0 : w61.cell? ⟨gb644, 0, none⟩ = some (.int .i64 a0_0) := (bc BK644.out 0).trans rfl; have hcz62_1 : w61.cell? ⟨gb644, 1, none⟩ = some (.int .i64 a0_1) := (bc BK644.out 1).trans rfl; have hcz62_2 : w61.cell? ⟨gb644, 2, none⟩ = some (.int .i64 a0_2) := (bc BK644.out 2).trans rfl; have hcz62_3 : w61.cell? ⟨gb644, 3, none⟩ = some (.string a0_3) := (bc BK644.out 3).trans rfl; have hfz62_0 := bf BK644.out 0; have hfz62_1 := bf BK644.out 1; have hfz62_2 := bf BK644.out 2; have hfz62_3 := bf BK644.out 3)))
      go_ret
      exact ⟨by first | rfl | (simp [errW_none, errW_some] <;> rfl) | (simp [*, errW_none, errW_some] <;> rfl) | (simp [Aid.ne_nil, Aid.eq_nil, errW_none, errW_some]; done), by repeat (first | (with_reducible first | exact HB.out | apply bl | apply pN | apply b1 | refine bs ?_ GE644.out | refine bs ?_ GE653.out) | exact HB.out | exact HBo.out)⟩
     ·
      rw [if_neg c58] at H
      exact absurd H (by simp)

/-- THE ONE PURE STATEMENT of shuttlecocklaw05_BatchBase (own row). -/
def shuttlecocklaw05_BatchBase.Pure : Prop := ∀ (y0 : S23) (y1 : Int), ((Lit.int .i64 y0.f0).wf = true ∧ (Lit.int .i64 y0.f1).wf = true ∧ (Lit.int .i64 y0.f2).wf = true ∧ y0.f3.size ≤ 140737488351232) → (Lit.int .i64 y1).wf = true → ∃ k, shuttlecocklaw05_BatchBase.f k y0.f0 y0.f1 y0.f2 y0.f3 y1 = some true

end Go.Proofs.Ytfcombimnmkoeaa.Q
