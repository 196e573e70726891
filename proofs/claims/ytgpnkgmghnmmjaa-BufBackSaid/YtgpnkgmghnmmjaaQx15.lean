-- printed by a program of this session (NOTES: hprint); not the kit's print
-- minified
-- halved
import Derived.Test.YtgpnkgmghnmmjaaAl
import Derived.Test.YtgpnkgmghnmmjaaQx0
import Derived.Test.YtgpnkgmghnmmjaaQx30
import Derived.Test.YtgpnkgmghnmmjaaQx31
import Derived.Test.YtgpnkgmghnmmjaaQx32
import Derived.Test.YtgpnkgmghnmmjaaQx14
namespace Go.Proofs.Ytgpnkgmghnmmjaa.Q
open Go.RowKit Go.Proofs.YtgpnkgmghnmmjaaW.PrintWords Go.Proofs.YtgpnkgmghnmmjaaW.PrintLast Go.Proofs.YtgpnkgmghnmmjaaW.PrintMore
attribute [local go_sem] max2_int min2_int max_two min_two max_three min_three max_four min_four   -- for this text's walks alone
set_option linter.unusedVariables false
set_option linter.unusedSimpArgs false

/-! ### shuttlecockref04_Decode: function 25 -/
mutual
def shuttlecockref04_Decode.j0 : Nat → ByteArray → Int → Bool → Int → Int → ByteArray → Option (Int × Int × List Int × ByteArray × Int × Int)
 | 0, _, _, _, _, _, _ => none
 | k + 1, x0, x1, x28, x291000, x291001, x291003 => if x28 = true then (some (x291000, x291001, ([] : List Int), x291003, 0, 1)) else (if x1 = (x0.size : Int) then (some (x291000, x291001, ([] : List Int), x291003, 0, 10)) else (if 0 ≤ x1 then (if x1 < (x0.size : Int) then ((shuttlecockref03_Known.f (wrap64 (bt x0 x1))).bind fun t292 => (if t292 = true then (shuttlecockref04_Decode.j1 k x0 x1 false x291000 x291001 x291003 (wrap64 (bt x0 x1)) 0 (⟨#[]⟩ : ByteArray)) else ((shuttlecockref03_Exp.f (wrap64 (bt x0 x1))).bind fun t293 => (shuttlecockref04_Decode.j1 k x0 x1 (!t293) x291000 x291001 x291003 (wrap64 (bt x0 x1)) 0 (⟨#[]⟩ : ByteArray))))) else (none)) else (none)))
def shuttlecockref04_Decode.j1 : Nat → ByteArray → Int → Bool → Int → Int → ByteArray → Int → Int → ByteArray → Option (Int × Int × List Int × ByteArray × Int × Int)
 | 0, _, _, _, _, _, _, _, _, _ => none
 | k + 1, x0, x1, x49, x291000, x291001, x291003, x292000, x292001, x292003 => if x49 = true then (some (x291000, x291001, ([] : List Int), x291003, 0, 30)) else ((shuttlecockref01_Take.f k x0 (wrap64 (x1 + 1))).bind fun bt294 => (if bt294.2.2 = 0 then ((shuttlecockref03_Exp.f x292000).bind fun t297 => (if t297 = true then ((shuttlecockref01_Take.f k x0 bt294.2.1).bind fun bt298 => (if bt298.2.2 = 0 then (if bt298.1 > (wrap64 ((x0.size : Int) - bt298.2.1)) then (some (x291000, x291001, ([] : List Int), x291003, 0, 10)) else (if 0 ≤ bt298.2.1 then (if bt298.2.1 ≤ (wrap64 (bt298.2.1 + bt298.1)) then (if (wrap64 (bt298.2.1 + bt298.1)) ≤ (x0.size : Int) then (some (x292000, bt294.1, ([] : List Int), x0.extract (bt298.2.1 : Int).toNat ((wrap64 (bt298.2.1 + bt298.1)) : Int).toNat, wrap64 (bt298.2.1 + bt298.1), 0)) else (none)) else (none)) else (none))) else (some (x291000, x291001, ([] : List Int), x291003, 0, bt298.2.2)))) else ((shuttlecockref03_Args.f k x292000).bind fun t301 => (shuttlecockref04_Decode.l0 k x0 bt294.2.1 (t301.length : Int) 0 x291000 x291001 x291003 x292000 bt294.1 ([] : List Int) x292003)))) else (some (x291000, x291001, ([] : List Int), x291003, 0, bt294.2.2))))
def shuttlecockref04_Decode.l0 : Nat → ByteArray → Int → Int → Int → Int → Int → ByteArray → Int → Int → List Int → ByteArray → Option (Int × Int × List Int × ByteArray × Int × Int)
 | 0, _, _, _, _, _, _, _, _, _, _, _ => none
 | k + 1, x0, x10, x15, x16, x291000, x291001, x291003, x292000, x292001, x292002, x292003 => if x16 < x15 then ((shuttlecockref01_Take.f k x0 x10).bind fun bt304 => (if bt304.2.2 = 0 then (if x292002.length < 17592186044416 then (shuttlecockref04_Decode.l0 k x0 bt304.2.1 x15 (wrap64 (x16 + 1)) x291000 x291001 x291003 x292000 x292001 (x292002 ++ [bt304.1]) x292003) else (none)) else (some (x291000, x291001, ([] : List Int), x291003, 0, bt304.2.2)))) else (some (x292000, x292001, x292002, x292003, x10, 0))
end
def shuttlecockref04_Decode.f (k : Nat) (a0 : ByteArray) (a1 : Int) : Option (Int × Int × List Int × ByteArray × Int × Int) := if a1 < 0 then (shuttlecockref04_Decode.j0 k a0 a1 true 0 0 (⟨#[]⟩ : ByteArray)) else (shuttlecockref04_Decode.j0 k a0 a1 (decide (a1 > (a0.size : Int))) 0 0 (⟨#[]⟩ : ByteArray))
theorem shuttlecockref04_Decode.mono_l : ∀ k, (∀ y0 y1 y2 y3 y4 y5, LeO (shuttlecockref04_Decode.j0 k y0 y1 y2 y3 y4 y5) (shuttlecockref04_Decode.j0 (k + 1) y0 y1 y2 y3 y4 y5)) ∧ (∀ y0 y1 y2 y3 y4 y5 y6 y7 y8, LeO (shuttlecockref04_Decode.j1 k y0 y1 y2 y3 y4 y5 y6 y7 y8) (shuttlecockref04_Decode.j1 (k + 1) y0 y1 y2 y3 y4 y5 y6 y7 y8)) ∧ (∀ y0 y1 y2 y3 y4 y5 y6 y7 y8 y9 y10, LeO (shuttlecockref04_Decode.l0 k y0 y1 y2 y3 y4 y5 y6 y7 y8 y9 y10) (shuttlecockref04_Decode.l0 (k + 1) y0 y1 y2 y3 y4 y5 y6 y7 y8 y9 y10))
 | 0 => ⟨fun _ _ _ _ _ _ r h => by simp [shuttlecockref04_Decode.j0] at h, fun _ _ _ _ _ _ _ _ _ r h => by simp [shuttlecockref04_Decode.j1] at h, fun _ _ _ _ _ _ _ _ _ _ _ r h => by simp [shuttlecockref04_Decode.l0] at h⟩
 | k + 1 => by
  obtain ⟨ih0, ih1, ih2⟩ := shuttlecockref04_Decode.mono_l k
  refine ⟨?_, ?_, ?_⟩
  ·
   intro y0 y1 y2 y3 y4 y5
   unfold shuttlecockref04_Decode.j0
   repeat' first
   | (with_reducible exact ih0 _ _ _ _ _ _)
   | (with_reducible exact ih1 _ _ _ _ _ _ _ _ _)
   | (with_reducible exact ih2 _ _ _ _ _ _ _ _ _ _ _)
   | (with_reducible exact shuttlecockref01_Take.mono _ _ _)
   | (with_reducible exact shuttlecockref03_Args.mono _ _)
   | (with_reducible exact LeO.refl _)
   | (with_reducible exact LeO.none _)
   | (with_reducible refine LeO.ite ?_ ?_)
   | (with_reducible refine LeO.bind ?_ (fun _ => ?_))
   | exact ih0 _ _ _ _ _ _
   | exact ih1 _ _ _ _ _ _ _ _ _
   | exact ih2 _ _ _ _ _ _ _ _ _ _ _
   | exact shuttlecockref01_Take.mono _ _ _
   | exact shuttlecockref03_Args.mono _ _
   | exact LeO.none _
   | refine LeO.ite ?_ ?_
   | refine LeO.bind ?_ (fun _ => ?_)
  ·
   intro y0 y1 y2 y3 y4 y5 y6 y7 y8
   unfold shuttlecockref04_Decode.j1
   repeat' first
   | (with_reducible exact ih0 _ _ _ _ _ _)
   | (with_reducible exact ih1 _ _ _ _ _ _ _ _ _)
   | (with_reducible exact ih2 _ _ _ _ _ _ _ _ _ _ _)
   | (with_reducible exact shuttlecockref01_Take.mono _ _ _)
   | (with_reducible exact shuttlecockref03_Args.mono _ _)
   | (with_reducible exact LeO.refl _)
   | (with_reducible exact LeO.none _)
   | (with_reducible refine LeO.ite ?_ ?_)
   | (with_reducible refine LeO.bind ?_ (fun _ => ?_))
   | exact ih0 _ _ _ _ _ _
   | exact ih1 _ _ _ _ _ _ _ _ _
   | exact ih2 _ _ _ _ _ _ _ _ _ _ _
   | exact shuttlecockref01_Take.mono _ _ _
   | exact shuttlecockref03_Args.mono _ _
   | exact LeO.none _
   | refine LeO.ite ?_ ?_
   | refine LeO.bind ?_ (fun _ => ?_)
  ·
   intro y0 y1 y2 y3 y4 y5 y6 y7 y8 y9 y10
   unfold shuttlecockref04_Decode.l0
   repeat' first
   | (with_reducible exact ih0 _ _ _ _ _ _)
   | (with_reducible exact ih1 _ _ _ _ _ _ _ _ _)
   | (with_reducible exact ih2 _ _ _ _ _ _ _ _ _ _ _)
   | (with_reducible exact shuttlecockref01_Take.mono _ _ _)
   | (with_reducible exact shuttlecockref03_Args.mono _ _)
   | (with_reducible exact LeO.refl _)
   | (with_reducible exact LeO.none _)
   | (with_reducible refine LeO.ite ?_ ?_)
   | (with_reducible refine LeO.bind ?_ (fun _ => ?_))
   | exact ih0 _ _ _ _ _ _
   | exact ih1 _ _ _ _ _ _ _ _ _
   | exact ih2 _ _ _ _ _ _ _ _ _ _ _
   | exact shuttlecockref01_Take.mono _ _ _
   | exact shuttlecockref03_Args.mono _ _
   | exact LeO.none _
   | refine LeO.ite ?_ ?_
   | refine LeO.bind ?_ (fun _ => ?_)
theorem shuttlecockref04_Decode.mono : ∀ a0 a1 k, LeO (shuttlecockref04_Decode.f k a0 a1) (shuttlecockref04_Decode.f (k + 1) a0 a1) := by
 intro a0 a1 k
 obtain ⟨ih0, ih1, ih2⟩ := shuttlecockref04_Decode.mono_l k
 unfold shuttlecockref04_Decode.f
 repeat' first
   | (with_reducible exact ih0 _ _ _ _ _ _)
   | (with_reducible exact ih1 _ _ _ _ _ _ _ _ _)
   | (with_reducible exact ih2 _ _ _ _ _ _ _ _ _ _ _)
   | (with_reducible exact shuttlecockref01_Take.mono _ _ _)
   | (with_reducible exact shuttlecockref03_Args.mono _ _)
   | (with_reducible exact LeO.refl _)
   | (with_reducible exact LeO.none _)
   | (with_reducible refine LeO.ite ?_ ?_)
   | (with_reducible refine LeO.bind ?_ (fun _ => ?_))
   | exact ih0 _ _ _ _ _ _
   | exact ih1 _ _ _ _ _ _ _ _ _
   | exact ih2 _ _ _ _ _ _ _ _ _ _ _
   | exact shuttlecockref01_Take.mono _ _ _
   | exact shuttlecockref03_Args.mono _ _
   | exact LeO.none _
   | refine LeO.ite ?_ ?_
   | refine LeO.bind ?_ (fun _ => ?_)
set_option maxHeartbeats 8000000 in
set_option maxRecDepth 100000 in
theorem shuttlecockref04_Decode.calls (k : Nat) (a0 : ByteArray) (a1 : Int) (r1 : Int) (r2 : Int) (r3 : List Int) (r4 : ByteArray) (r5 : Int) (r6 : Int) (w : World) (h : shuttlecockref04_Decode.f k a0 a1 = some (r1, r2, r3, r4, r5, r6)) :
  Calls Try.prog 25 #[.string a0, .int .i64 a1] w fun e w' => ∃ v2_ : Value, e = .returned (.tuple #[.agg #[.int .i64 r1, .int .i64 r2, v2_, .string r4], .int .i64 r5, .int .i64 r6]) ∧ Kd.R (Kd.int .i64) 3 w' w.heap.size (fun _ => True) v2_ r3 ∧ Below w.heap.size w w' := by
 have hu28 := Try.underlying28
 have HB := Am (Below.refl w.heap.size w)
 have H : (if a1 < 0 then (shuttlecockref04_Decode.j0 k a0 a1 true 0 0 (⟨#[]⟩ : ByteArray)) else (shuttlecockref04_Decode.j0 k a0 a1 (decide (a1 > (a0.size : Int))) 0 0 (⟨#[]⟩ : ByteArray))) = some (r1, r2, r3, r4, r5, r6) := h
 clear h
 have HC3 := Am H
 clear H
 go_enter Try.func25, Try.ntmps25
 go_upto_region 2 with (first | ((with_reducible refine gate_dst (N := 4) rfl ?_); (try (refine gate_guard (by rfl) ?_; dsimp only)); refine box_event ?hg (N := 4) ?hd (cs := #[.int .i64 0, .int .i64 0, .slice none 0 0, .string (⟨#[]⟩ : ByteArray)]) (t := 28) ?hr ?_; (case hd => rfl); (case hg => rfl); (case hr => first | (go_simp; done) | (go_simp; rfl)); intro gb289 hg w4 hbox hb; have n0_ := Am (below_step (by repeat (first | (with_reducible first | exact HB.out | apply bl | apply pN | apply b1) | exact HB.out | exact HBo.out)) hb); have n1_ := Am (hbox); have n2_ := Am ((by rw [hg]; exact (below_size (by repeat (first | (with_reducible first | exact HB.out | apply bl | apply pN | apply b1) | exact HB.out | exact HBo.out))) : w.heap.size ≤ gb289)); have n3_ := Am ((by rw [hg]; exact (below_size (by repeat (first | (with_reducible first | exact HB.out | apply bl | apply pN | apply b1) | exact HB.out | exact HBo.out))) : w.heap.size ≤ gb289)); clear HB; have HB := n0_; have BK289 := n1_; have GW289 := n2_; have GE289 := n3_; clear n0_ n1_ n2_ n3_; clear hb hbox hg) | ((with_reducible refine gate_dst (N := 7) rfl ?_); (try (refine gate_guard (by rfl) ?_; dsimp only)); refine box_event ?hg (N := 7) ?hd (cs := #[.int .i64 0, .int .i64 0, .slice none 0 0, .string (⟨#[]⟩ : ByteArray)]) (t := 28) ?hr ?_; (case hd => rfl); (case hg => rfl); (case hr => first | (go_simp; done) | (go_simp; rfl)); intro gb290 hg w5 hbox hb; have n0_ := Am (blk_below (g := gb289) (o := .cells #[.int .i64 0, .int .i64 0, .slice none 0 0, .string (⟨#[]⟩ : ByteArray)] 28 (0, 0)) (by (with_reducible repeat (first | refine bn ?_ _ | refine bd ?_ | refine ba ?_ _)); exact BK289.out) hb); have n1_ := Am (below_step (by repeat (first | (with_reducible first | exact HB.out | apply bl | apply pN | apply b1 | refine bs ?_ GE289.out) | exact HB.out | exact HBo.out)) hb); have n2_ := Am (hbox); have n3_ := Am ((by rw [hg]; exact (below_size (by repeat (first | (with_reducible first | exact HB.out | apply bl | apply pN | apply b1 | refine bs ?_ GE289.out) | exact HB.out | exact HBo.out))) : w.heap.size ≤ gb290)); have n4_ := Am ((by rw [hg]; exact (below_size (by repeat (first | (with_reducible first | exact HB.out | apply bl | apply pN | apply b1 | refine bs ?_ GE289.out) | exact HB.out | exact HBo.out))) : w.heap.size ≤ gb290)); have n5_ := Am ((by rw [hg]; exact Nat.ne_of_lt (blk_lt (g := gb289) (o := .cells #[.int .i64 0, .int .i64 0, .slice none 0 0, .string (⟨#[]⟩ : ByteArray)] 28 (0, 0)) (by (with_reducible repeat (first | refine bn ?_ _ | refine bd ?_ | refine ba ?_ _)); exact BK289.out)) : gb289 ≠ gb290)); have n6_ := Am ((by rw [hg]; exact Nat.ne_of_gt (blk_lt (g := gb289) (o := .cells #[.int .i64 0, .int .i64 0, .slice none 0 0, .string (⟨#[]⟩ : ByteArray)] 28 (0, 0)) (by (with_reducible repeat (first | refine bn ?_ _ | refine bd ?_ | refine ba ?_ _)); exact BK289.out)) : gb290 ≠ gb289)); clear BK289; clear HB; have BK289 := n0_; have HB := n1_; have BK290 := n2_; have GW290 := n3_; have GE290 := n4_; have NB289_290 := n5_; have NB290_289 := n6_; clear n0_ n1_ n2_ n3_ n4_ n5_ n6_; clear hb hbox hg; have hnb6 := NB290_289.out; have hnc6 := NB289_290.out; have hcz7_0 : w5.cell? ⟨gb290, 0, none⟩ = some (.int .i64 0) := (bc BK290.out 0).trans rfl; have hcz7_1 : w5.cell? ⟨gb290, 1, none⟩ = some (.int .i64 0) := (bc BK290.out 1).trans rfl; have hcz7_2 : w5.cell? ⟨gb290, 2, none⟩ = some (.slice none 0 0) := (bc BK290.out 2).trans rfl; have hcz7_3 : w5.cell? ⟨gb290, 3, none⟩ = some (.string (⟨#[]⟩ : ByteArray)) := (bc BK290.out 3).trans rfl; have hfz7_0 := bf BK290.out 0; have hfz7_1 := bf BK290.out 1; have hfz7_2 := bf BK290.out 2; have hfz7_3 := bf BK290.out 3))
 (try simp only [Act.put, sI, sZ, sS])
 go_cut [28] (fun v28 wc => ∃ (kq : Nat) (x28_2 : Bool), v28 = .bool x28_2 ∧ Aside0 (shuttlecockref04_Decode.j0 kq a0 a1 x28_2 0 0 (⟨#[]⟩ : ByteArray) = some (r1, r2, r3, r4, r5, r6)) ∧ Aside0 (kq ≤ k) ∧ Aside0 (wc.heap[gb289]? = some (.cells #[.int .i64 0, .int .i64 0, (.slice none 0 0), .string (⟨#[]⟩ : ByteArray)] 28 (0, 0))) ∧ Aside0 (wc.heap[gb290]? = some (.cells #[.int .i64 0, .int .i64 0, (.slice none 0 0), .string (⟨#[]⟩ : ByteArray)] 28 (0, 0))) ∧ Aside0 (Below w.heap.size w wc))
 case first =>
  have H := HC3.out
  clear HC3
  by_cases c8 : a1 < 0
  ·
   rw [if_pos c8] at H
   have c8b0 : decide (a1 < 0) = true := decide_eq_true c8
   clear c8
   (first | rw [c8b0] | (simp only [i64_w, i32_w]; rw [c8b0]) | skip)
   have H' := Am H
   clear H
   go_wp2
   go_meet
   case rel => exact ⟨_, (true), (by first | rfl | (simp; done) | (simp [*]; done)), H', ⟨by first | omega | exact Nat.le_refl _⟩, ⟨by (with_reducible repeat (first | refine bn ?_ _ | refine bd ?_ | refine ba ?_ _)); refine blk_far ?_ NB289_290.out _; (with_reducible repeat (first | refine bn ?_ _ | refine bd ?_ | refine ba ?_ _)); refine blk_far ?_ NB289_290.out _; (with_reducible repeat (first | refine bn ?_ _ | refine bd ?_ | refine ba ?_ _)); refine blk_far ?_ NB289_290.out _; (with_reducible repeat (first | refine bn ?_ _ | refine bd ?_ | refine ba ?_ _)); refine blk_far ?_ NB289_290.out _; (with_reducible repeat (first | refine bn ?_ _ | refine bd ?_ | refine ba ?_ _)); exact BK289.out⟩, ⟨by (with_reducible repeat (first | refine bn ?_ _ | refine bd ?_ | refine ba ?_ _)); refine blk_put (cs := #[.int .i64 0, .int .i64 0, .slice none 0 0, .string (⟨#[]⟩ : ByteArray)]) ?_ 3 _ rfl; (with_reducible repeat (first | refine bn ?_ _ | refine bd ?_ | refine ba ?_ _)); refine blk_put (cs := #[.int .i64 0, .int .i64 0, .slice none 0 0, .string (⟨#[]⟩ : ByteArray)]) ?_ 2 _ rfl; (with_reducible repeat (first | refine bn ?_ _ | refine bd ?_ | refine ba ?_ _)); refine blk_put (cs := #[.int .i64 0, .int .i64 0, .slice none 0 0, .string (⟨#[]⟩ : ByteArray)]) ?_ 1 _ rfl; (with_reducible repeat (first | refine bn ?_ _ | refine bd ?_ | refine ba ?_ _)); refine blk_put (cs := #[.int .i64 0, .int .i64 0, .slice none 0 0, .string (⟨#[]⟩ : ByteArray)]) ?_ 0 _ rfl; (with_reducible repeat (first | refine bn ?_ _ | refine bd ?_ | refine ba ?_ _)); exact BK290.out⟩, ⟨by repeat (first | (with_reducible first | exact HB.out | apply bl | apply pN | apply b1 | refine bs ?_ GE289.out | refine bs ?_ GE290.out) | exact HB.out | exact HBo.out)⟩⟩
  ·
   rw [if_neg c8] at H
   have c8b0 : decide (a1 < 0) = false := decide_eq_false c8
   clear c8
   (first | rw [c8b0] | (simp only [i64_w, i32_w]; rw [c8b0]) | skip)
   have H' := Am H
   clear H
   go_wp2
   go_meet
   case rel => exact ⟨_, (decide (a1 > (a0.size : Int))), (by first | rfl | (simp; done) | (simp [*]; done)), H', ⟨by first | omega | exact Nat.le_refl _⟩, ⟨by (with_reducible repeat (first | refine bn ?_ _ | refine bd ?_ | refine ba ?_ _)); refine blk_far ?_ NB289_290.out _; (with_reducible repeat (first | refine bn ?_ _ | refine bd ?_ | refine ba ?_ _)); refine blk_far ?_ NB289_290.out _; (with_reducible repeat (first | refine bn ?_ _ | refine bd ?_ | refine ba ?_ _)); refine blk_far ?_ NB289_290.out _; (with_reducible repeat (first | refine bn ?_ _ | refine bd ?_ | refine ba ?_ _)); refine blk_far ?_ NB289_290.out _; (with_reducible repeat (first | refine bn ?_ _ | refine bd ?_ | refine ba ?_ _)); exact BK289.out⟩, ⟨by (with_reducible repeat (first | refine bn ?_ _ | refine bd ?_ | refine ba ?_ _)); refine blk_put (cs := #[.int .i64 0, .int .i64 0, .slice none 0 0, .string (⟨#[]⟩ : ByteArray)]) ?_ 3 _ rfl; (with_reducible repeat (first | refine bn ?_ _ | refine bd ?_ | refine ba ?_ _)); refine blk_put (cs := #[.int .i64 0, .int .i64 0, .slice none 0 0, .string (⟨#[]⟩ : ByteArray)]) ?_ 2 _ rfl; (with_reducible repeat (first | refine bn ?_ _ | refine bd ?_ | refine ba ?_ _)); refine blk_put (cs := #[.int .i64 0, .int .i64 0, .slice none 0 0, .string (⟨#[]⟩ : ByteArray)]) ?_ 1 _ rfl; (with_reducible repeat (first | refine bn ?_ _ | refine bd ?_ | refine ba ?_ _)); refine blk_put (cs := #[.int .i64 0, .int .i64 0, .slice none 0 0, .string (⟨#[]⟩ : ByteArray)]) ?_ 0 _ rfl; (with_reducible repeat (first | refine bn ?_ _ | refine bd ?_ | refine ba ?_ _)); exact BK290.out⟩, ⟨by repeat (first | (with_reducible first | exact HB.out | apply bl | apply pN | apply b1 | refine bs ?_ GE289.out | refine bs ?_ GE290.out) | exact HB.out | exact HBo.out)⟩⟩
 case rest =>
  clear HC3
  try clear c2
  try clear p2
  try clear c6
  try clear c8
  try clear c8b0
  try clear hcz7_0
  try clear hcz7_1
  try clear hcz7_2
  try clear hcz7_3
  try clear hfz7_0
  try clear hfz7_1
  try clear hfz7_2
  try clear hfz7_3
  obtain ⟨kq, x28_2, rfl, HA, HJ2, BK289, BK290, HB⟩ := hcut
  cases kq with
  | zero => exact absurd HA.out (by simp [shuttlecockref04_Decode.j0])
  | succ kj2 =>
   have H := HA.out
   clear HA
   simp only [shuttlecockref04_Decode.j0] at H
   by_cases c9 : x28_2 = true
   ·
    subst c9
    have H1 : (some (0, 0, ([] : List Int), (⟨#[]⟩ : ByteArray), 0, 1)) = some (r1, r2, r3, r4, r5, r6) := by rw [if_pos rfl] at H; exact H
    clear H
    have H := H1
    clear H1
    simp only [Option.some.injEq, Prod.mk.injEq] at H
    obtain ⟨rfl, rfl, rfl, rfl, rfl, rfl⟩ := H
    have hnb10 := NB290_289.out
    have hnc10 := NB289_290.out
    have hcz11_0 : wc.cell? ⟨gb290, 0, none⟩ = some (.int .i64 0) := (bc BK290.out 0).trans rfl
    have hcz11_1 : wc.cell? ⟨gb290, 1, none⟩ = some (.int .i64 0) := (bc BK290.out 1).trans rfl
    have hcz11_2 : wc.cell? ⟨gb290, 2, none⟩ = some (.slice none 0 0) := (bc BK290.out 2).trans rfl
    have hcz11_3 : wc.cell? ⟨gb290, 3, none⟩ = some (.string (⟨#[]⟩ : ByteArray)) := (bc BK290.out 3).trans rfl
    have hfz11_0 := bf BK290.out 0
    have hfz11_1 := bf BK290.out 1
    have hfz11_2 := bf BK290.out 2
    have hfz11_3 := bf BK290.out 3
    have hcz12_0 : wc.cell? ⟨gb289, 0, none⟩ = some (.int .i64 0) := (bc BK289.out 0).trans rfl
    have hcz12_1 : wc.cell? ⟨gb289, 1, none⟩ = some (.int .i64 0) := (bc BK289.out 1).trans rfl
    have hcz12_2 : wc.cell? ⟨gb289, 2, none⟩ = some (.slice none 0 0) := (bc BK289.out 2).trans rfl
    have hcz12_3 : wc.cell? ⟨gb289, 3, none⟩ = some (.string (⟨#[]⟩ : ByteArray)) := (bc BK289.out 3).trans rfl
    have hfz12_0 := bf BK289.out 0
    have hfz12_1 := bf BK289.out 1
    have hfz12_2 := bf BK289.out 2
    have hfz12_3 := bf BK289.out 3
    go_wp2
    refine bodyPost_ret (results_ctt rfl _ _ gb289 28 #[.int .i64 0, .int .i64 0, .slice none 0 0, .string (⟨#[]⟩ : ByteArray)] (0, 0) _ rfl (by (with_reducible repeat (first | refine bn ?_ _ | refine bd ?_ | refine ba ?_ _)); refine blk_put (cs := #[.int .i64 0, .int .i64 0, .slice none 0 0, .string (⟨#[]⟩ : ByteArray)]) ?_ 3 _ rfl; (with_reducible repeat (first | refine bn ?_ _ | refine bd ?_ | refine ba ?_ _)); refine blk_put (cs := #[.int .i64 0, .int .i64 0, .slice none 0 0, .string (⟨#[]⟩ : ByteArray)]) ?_ 2 _ rfl; (with_reducible repeat (first | refine bn ?_ _ | refine bd ?_ | refine ba ?_ _)); refine blk_put (cs := #[.int .i64 0, .int .i64 0, .slice none 0 0, .string (⟨#[]⟩ : ByteArray)]) ?_ 1 _ rfl; (with_reducible repeat (first | refine bn ?_ _ | refine bd ?_ | refine ba ?_ _)); refine blk_put (cs := #[.int .i64 0, .int .i64 0, .slice none 0 0, .string (⟨#[]⟩ : ByteArray)]) ?_ 0 _ rfl; (with_reducible repeat (first | refine bn ?_ _ | refine bd ?_ | refine ba ?_ _)); exact BK289.out) Try.underlying28 rfl (by kernel_rfl)) rfl ?_
    exact ⟨_, by first | rfl | (simp [errW_none, errW_some] <;> rfl) | (simp [*, errW_none, errW_some] <;> rfl) | (simp [Aid.ne_nil, Aid.eq_nil, errW_none, errW_some]; done), by first | exact Kd.R_nil _ _ _ _ _ | exact Kd.N_nil _ _ _ _ _ | exact Kd.V_nil _ _ _ _ _ | exact Kd.Q_nil _ _ _ _ _ | exact Kd.S_nil _ _ _ _ _, by repeat (first | (with_reducible first | exact HB.out | apply bl | apply pN | apply b1 | refine bs ?_ GE289.out | refine bs ?_ GE290.out) | exact HB.out | exact HBo.out)⟩
   ·
    replace c9 := Bool.eq_false_iff.mpr c9
    subst c9
    have H1 : (if a1 = (a0.size : Int) then (some (0, 0, ([] : List Int), (⟨#[]⟩ : ByteArray), 0, 10)) else (if 0 ≤ a1 then (if a1 < (a0.size : Int) then ((shuttlecockref03_Known.f (wrap64 (bt a0 a1))).bind fun t292 => (if t292 = true then (shuttlecockref04_Decode.j1 kj2 a0 a1 false 0 0 (⟨#[]⟩ : ByteArray) (wrap64 (bt a0 a1)) 0 (⟨#[]⟩ : ByteArray)) else ((shuttlecockref03_Exp.f (wrap64 (bt a0 a1))).bind fun t293 => (shuttlecockref04_Decode.j1 kj2 a0 a1 (!t293) 0 0 (⟨#[]⟩ : ByteArray) (wrap64 (bt a0 a1)) 0 (⟨#[]⟩ : ByteArray))))) else (none)) else (none))) = some (r1, r2, r3, r4, r5, r6) := by rw [if_neg (show ¬ (false = true) by decide)] at H; exact H
    clear H
    have H := H1
    clear H1
    by_cases c13 : a1 = (a0.size : Int)
    ·
     rw [if_pos c13] at H
     have c13b0 : (a1 == (a0.size : Int)) = true := beq_iff_eq.mpr c13
     have c13b1 : (a1 != (a0.size : Int)) = false := bne_eq_false_iff_eq.mpr c13
     clear c13
     simp only [Option.some.injEq, Prod.mk.injEq] at H
     obtain ⟨rfl, rfl, rfl, rfl, rfl, rfl⟩ := H
     have hnb14 := NB290_289.out
     have hnc14 := NB289_290.out
     have hcz15_0 : wc.cell? ⟨gb290, 0, none⟩ = some (.int .i64 0) := (bc BK290.out 0).trans rfl
     have hcz15_1 : wc.cell? ⟨gb290, 1, none⟩ = some (.int .i64 0) := (bc BK290.out 1).trans rfl
     have hcz15_2 : wc.cell? ⟨gb290, 2, none⟩ = some (.slice none 0 0) := (bc BK290.out 2).trans rfl
     have hcz15_3 : wc.cell? ⟨gb290, 3, none⟩ = some (.string (⟨#[]⟩ : ByteArray)) := (bc BK290.out 3).trans rfl
     have hfz15_0 := bf BK290.out 0
     have hfz15_1 := bf BK290.out 1
     have hfz15_2 := bf BK290.out 2
     have hfz15_3 := bf BK290.out 3
     have hcz16_0 : wc.cell? ⟨gb289, 0, none⟩ = some (.int .i64 0) := (bc BK289.out 0).trans rfl
     have hcz16_1 : wc.cell? ⟨gb289, 1, none⟩ = some (.int .i64 0) := (bc BK289.out 1).trans rfl
     have hcz16_2 : wc.cell? ⟨gb289, 2, none⟩ = some (.slice none 0 0) := (bc BK289.out 2).trans rfl
     have hcz16_3 : wc.cell? ⟨gb289, 3, none⟩ = some (.string (⟨#[]⟩ : ByteArray)) := (bc BK289.out 3).trans rfl
     have hfz16_0 := bf BK289.out 0
     have hfz16_1 := bf BK289.out 1
     have hfz16_2 := bf BK289.out 2
     have hfz16_3 := bf BK289.out 3
     go_wp2
     refine bodyPost_ret (results_ctt rfl _ _ gb289 28 #[.int .i64 0, .int .i64 0, .slice none 0 0, .string (⟨#[]⟩ : ByteArray)] (0, 0) _ rfl (by (with_reducible repeat (first | refine bn ?_ _ | refine bd ?_ | refine ba ?_ _)); refine blk_put (cs := #[.int .i64 0, .int .i64 0, .slice none 0 0, .string (⟨#[]⟩ : ByteArray)]) ?_ 3 _ rfl; (with_reducible repeat (first | refine bn ?_ _ | refine bd ?_ | refine ba ?_ _)); refine blk_put (cs := #[.int .i64 0, .int .i64 0, .slice none 0 0, .string (⟨#[]⟩ : ByteArray)]) ?_ 2 _ rfl; (with_reducible repeat (first | refine bn ?_ _ | refine bd ?_ | refine ba ?_ _)); refine blk_put (cs := #[.int .i64 0, .int .i64 0, .slice none 0 0, .string (⟨#[]⟩ : ByteArray)]) ?_ 1 _ rfl; (with_reducible repeat (first | refine bn ?_ _ | refine bd ?_ | refine ba ?_ _)); refine blk_put (cs := #[.int .i64 0, .int .i64 0, .slice none 0 0, .string (⟨#[]⟩ : ByteArray)]) ?_ 0 _ rfl; (with_reducible repeat (first | refine bn ?_ _ | refine bd ?_ | refine ba ?_ _)); exact BK289.out) Try.underlying28 rfl (by kernel_rfl)) rfl ?_
     exact ⟨_, by first | rfl | (simp [errW_none, errW_some] <;> rfl) | (simp [*, errW_none, errW_some] <;> rfl) | (simp [Aid.ne_nil, Aid.eq_nil, errW_none, errW_some]; done), by first | exact Kd.R_nil _ _ _ _ _ | exact Kd.N_nil _ _ _ _ _ | exact Kd.V_nil _ _ _ _ _ | exact Kd.Q_nil _ _ _ _ _ | exact Kd.S_nil _ _ _ _ _, by repeat (first | (with_reducible first | exact HB.out | apply bl | apply pN | apply b1 | refine bs ?_ GE289.out | refine bs ?_ GE290.out) | exact HB.out | exact HBo.out)⟩
    ·
     rw [if_neg c13] at H
     have c13b0 : (a1 == (a0.size : Int)) = false := beq_eq_false_iff_ne.mpr c13
     have c13b1 : (a1 != (a0.size : Int)) = true := bne_iff_ne.mpr c13
     by_cases c17 : 0 ≤ a1
     ·
      rw [if_pos c17] at H
      have c17b0 : decide (0 ≤ a1) = true := decide_eq_true c17
      clear c17
      by_cases c18 : a1 < (a0.size : Int)
      ·
       rw [if_pos c18] at H
       have c18b0 : decide (a1 < (a0.size : Int)) = true := decide_eq_true c18
       clear c18
       have HC20 := Am H
       clear H
       have p19 : 0 ≤ (a1 : Int) := of_decide_eq_true (by first | (with_reducible assumption) | assumption)
       have q19 : a1 < (a0.size : Int) := of_decide_eq_true (by first | (with_reducible assumption) | assumption)
       have hx19 := bt_at a0 a1
       replace p19 := eq_true p19
       replace q19 := eq_true q19
       go_upto_region 7 with (first | ((with_reducible refine gate_dst (N := 8) rfl ?_); (try (refine gate_guard (by rfl) ?_; dsimp only)); refine box_event ?hg (N := 8) ?hd (cs := #[.int .i64 0, .int .i64 0, .slice none 0 0, .string (⟨#[]⟩ : ByteArray)]) (t := 28) ?hr ?_; (case hd => rfl); (case hg => rfl); (case hr => first | (go_simp; done) | (go_simp; rfl)); intro gb291 hg w21 hbox hb; have n0_ := Am (blk_below (g := gb289) (o := .cells #[.int .i64 0, .int .i64 0, .slice none 0 0, .string (⟨#[]⟩ : ByteArray)] 28 (0, 0)) (by (with_reducible repeat (first | refine bn ?_ _ | refine bd ?_ | refine ba ?_ _)); exact BK289.out) hb); have n1_ := Am (blk_below (g := gb290) (o := .cells #[.int .i64 0, .int .i64 0, .slice none 0 0, .string (⟨#[]⟩ : ByteArray)] 28 (0, 0)) (by (with_reducible repeat (first | refine bn ?_ _ | refine bd ?_ | refine ba ?_ _)); exact BK290.out) hb); have n2_ := Am (below_step (by repeat (first | (with_reducible first | exact HB.out | apply bl | apply pN | apply b1 | refine bs ?_ GE289.out | refine bs ?_ GE290.out) | exact HB.out | exact HBo.out)) hb); have n3_ := Am (hbox); have n4_ := Am ((by rw [hg]; exact (below_size (by repeat (first | (with_reducible first | exact HB.out | apply bl | apply pN | apply b1 | refine bs ?_ GE289.out | refine bs ?_ GE290.out) | exact HB.out | exact HBo.out))) : w.heap.size ≤ gb291)); have n5_ := Am ((by rw [hg]; exact (below_size (by repeat (first | (with_reducible first | exact HB.out | apply bl | apply pN | apply b1 | refine bs ?_ GE289.out | refine bs ?_ GE290.out) | exact HB.out | exact HBo.out))) : w.heap.size ≤ gb291)); have n6_ := Am ((by rw [hg]; exact Nat.ne_of_lt (blk_lt (g := gb289) (o := .cells #[.int .i64 0, .int .i64 0, .slice none 0 0, .string (⟨#[]⟩ : ByteArray)] 28 (0, 0)) (by (with_reducible repeat (first | refine bn ?_ _ | refine bd ?_ | refine ba ?_ _)); exact BK289.out)) : gb289 ≠ gb291)); have n7_ := Am ((by rw [hg]; exact Nat.ne_of_gt (blk_lt (g := gb289) (o := .cells #[.int .i64 0, .int .i64 0, .slice none 0 0, .string (⟨#[]⟩ : ByteArray)] 28 (0, 0)) (by (with_reducible repeat (first | refine bn ?_ _ | refine bd ?_ | refine ba ?_ _)); exact BK289.out)) : gb291 ≠ gb289)); have n8_ := Am ((by rw [hg]; exact Nat.ne_of_lt (blk_lt (g := gb290) (o := .cells #[.int .i64 0, .int .i64 0, .slice none 0 0, .string (⟨#[]⟩ : ByteArray)] 28 (0, 0)) (by (with_reducible repeat (first | refine bn ?_ _ | refine bd ?_ | refine ba ?_ _)); exact BK290.out)) : gb290 ≠ gb291)); have n9_ := Am ((by rw [hg]; exact Nat.ne_of_gt (blk_lt (g := gb290) (o := .cells #[.int .i64 0, .int .i64 0, .slice none 0 0, .string (⟨#[]⟩ : ByteArray)] 28 (0, 0)) (by (with_reducible repeat (first | refine bn ?_ _ | refine bd ?_ | refine ba ?_ _)); exact BK290.out)) : gb291 ≠ gb290)); clear BK289; clear BK290; clear HB; have BK289 := n0_; have BK290 := n1_; have HB := n2_; have BK291 := n3_; have GW291 := n4_; have GE291 := n5_; have NB289_291 := n6_; have NB291_289 := n7_; have NB290_291 := n8_; have NB291_290 := n9_; clear n0_ n1_ n2_ n3_ n4_ n5_ n6_ n7_ n8_ n9_; clear hb hbox hg; have hnb22 := NB291_289.out; have hnc22 := NB289_291.out; have hnb23 := NB291_290.out; have hnc23 := NB290_291.out; have hcz24_0 : w21.cell? ⟨gb291, 0, none⟩ = some (.int .i64 0) := (bc BK291.out 0).trans rfl; have hcz24_1 : w21.cell? ⟨gb291, 1, none⟩ = some (.int .i64 0) := (bc BK291.out 1).trans rfl; have hcz24_2 : w21.cell? ⟨gb291, 2, none⟩ = some (.slice none 0 0) := (bc BK291.out 2).trans rfl; have hcz24_3 : w21.cell? ⟨gb291, 3, none⟩ = some (.string (⟨#[]⟩ : ByteArray)) := (bc BK291.out 3).trans rfl; have hfz24_0 := bf BK291.out 0; have hfz24_1 := bf BK291.out 1; have hfz24_2 := bf BK291.out 2; have hfz24_3 := bf BK291.out 3))
       (try simp only [Act.put, sI, sZ, sS])
       go_cut [49] (fun v49 wc => ∃ (kq : Nat) (x49_19 : Bool), v49 = .bool x49_19 ∧ Aside0 (shuttlecockref04_Decode.j1 kq a0 a1 x49_19 0 0 (⟨#[]⟩ : ByteArray) (wrap64 (bt a0 a1)) 0 (⟨#[]⟩ : ByteArray) = some (r1, r2, r3, r4, r5, r6)) ∧ Aside0 (kq ≤ kj2) ∧ Aside0 (wc.heap[gb289]? = some (.cells #[.int .i64 0, .int .i64 0, (.slice none 0 0), .string (⟨#[]⟩ : ByteArray)] 28 (0, 0))) ∧ Aside0 (wc.heap[gb290]? = some (.cells #[.int .i64 0, .int .i64 0, (.slice none 0 0), .string (⟨#[]⟩ : ByteArray)] 28 (0, 0))) ∧ Aside0 (wc.heap[gb291]? = some (.cells #[.int .i64 (wrap64 (bt a0 a1)), .int .i64 0, (.slice none 0 0), .string (⟨#[]⟩ : ByteArray)] 28 (0, 0))) ∧ Aside0 (Below w.heap.size w wc))
       case first =>
        have H := HC20.out
        clear HC20
        replace H := ob H
        obtain ⟨t292, A250, H⟩ := H
        replace H : (if t292 = true then (shuttlecockref04_Decode.j1 kj2 a0 a1 false 0 0 (⟨#[]⟩ : ByteArray) (wrap64 (bt a0 a1)) 0 (⟨#[]⟩ : ByteArray)) else ((shuttlecockref03_Exp.f (wrap64 (bt a0 a1))).bind fun t293 => (shuttlecockref04_Decode.j1 kj2 a0 a1 (!t293) 0 0 (⟨#[]⟩ : ByteArray) (wrap64 (bt a0 a1)) 0 (⟨#[]⟩ : ByteArray)))) = some (r1, r2, r3, r4, r5, r6) := H
        have A25 := Am A250
        clear A250
        by_cases c26 : t292 = true
        ·
         subst c26
         have H1 : (shuttlecockref04_Decode.j1 kj2 a0 a1 false 0 0 (⟨#[]⟩ : ByteArray) (wrap64 (bt a0 a1)) 0 (⟨#[]⟩ : ByteArray)) = some (r1, r2, r3, r4, r5, r6) := by rw [if_pos rfl] at H; exact H
         clear H
         have H := H1
         clear H1
         have H' := Am H
         clear H
         have hnb27 := NB291_289.out
         have hnc27 := NB289_291.out
         have hnb28 := NB291_290.out
         have hnc28 := NB290_291.out
         have hcz29_0 : w21.cell? ⟨gb291, 0, none⟩ = some (.int .i64 0) := (bc BK291.out 0).trans rfl
         have hcz29_1 : w21.cell? ⟨gb291, 1, none⟩ = some (.int .i64 0) := (bc BK291.out 1).trans rfl
         have hcz29_2 : w21.cell? ⟨gb291, 2, none⟩ = some (.slice none 0 0) := (bc BK291.out 2).trans rfl
         have hcz29_3 : w21.cell? ⟨gb291, 3, none⟩ = some (.string (⟨#[]⟩ : ByteArray)) := (bc BK291.out 3).trans rfl
         have hfz29_0 := bf BK291.out 0
         have hfz29_1 := bf BK291.out 1
         have hfz29_2 := bf BK291.out 2
         have hfz29_3 := bf BK291.out 3
         go_wp2_with (first | ((with_reducible refine gate_callee (f := 36) rfl ?_); refine goesL_ (some 42) rfl rfl Try.func36 (by kernel_rfl) rfl #[.int .i64 (wrap64 (bt a0 a1))] rfl (by (try simp only [List.map_toArray, List.map_cons, List.map_nil]); first | done | rfl | (simp only [List.length_drop, List.length_take]; rfl)) ?_; (with_reducible refine (shuttlecockref03_Known.calls (wrap64 (bt a0 a1)) true _ A25.out).mono ?_); rintro e w' ⟨rfl, ⟨nd, rfl⟩⟩; refine ⟨_, rfl, ?_⟩))
         go_meet
         case rel => exact ⟨_, (false), (by first | rfl | (simp; done) | (simp [*]; done)), H', ⟨by have := HJ2.out; first | omega | exact Nat.le_refl _⟩, ⟨by (with_reducible repeat (first | refine bn ?_ _ | refine bd ?_ | refine ba ?_ _)); refine blk_far ?_ NB289_291.out _; (with_reducible repeat (first | refine bn ?_ _ | refine bd ?_ | refine ba ?_ _)); refine blk_far ?_ NB289_291.out _; (with_reducible repeat (first | refine bn ?_ _ | refine bd ?_ | refine ba ?_ _)); refine blk_far ?_ NB289_291.out _; (with_reducible repeat (first | refine bn ?_ _ | refine bd ?_ | refine ba ?_ _)); refine blk_far ?_ NB289_291.out _; (with_reducible repeat (first | refine bn ?_ _ | refine bd ?_ | refine ba ?_ _)); exact BK289.out⟩, ⟨by (with_reducible repeat (first | refine bn ?_ _ | refine bd ?_ | refine ba ?_ _)); refine blk_far ?_ NB290_291.out _; (with_reducible repeat (first | refine bn ?_ _ | refine bd ?_ | refine ba ?_ _)); refine blk_far ?_ NB290_291.out _; (with_reducible repeat (first | refine bn ?_ _ | refine bd ?_ | refine ba ?_ _)); refine blk_far ?_ NB290_291.out _; (with_reducible repeat (first | refine bn ?_ _ | refine bd ?_ | refine ba ?_ _)); refine blk_far ?_ NB290_291.out _; (with_reducible repeat (first | refine bn ?_ _ | refine bd ?_ | refine ba ?_ _)); exact BK290.out⟩, ⟨by (with_reducible repeat (first | refine bn ?_ _ | refine bd ?_ | refine ba ?_ _)); refine blk_put (cs := #[.int .i64 (wrap64 (bt a0 a1)), .int .i64 0, .slice none 0 0, .string (⟨#[]⟩ : ByteArray)]) ?_ 3 _ rfl; (with_reducible repeat (first | refine bn ?_ _ | refine bd ?_ | refine ba ?_ _)); refine blk_put (cs := #[.int .i64 (wrap64 (bt a0 a1)), .int .i64 0, .slice none 0 0, .string (⟨#[]⟩ : ByteArray)]) ?_ 2 _ rfl; (with_reducible repeat (first | refine bn ?_ _ | refine bd ?_ | refine ba ?_ _)); refine blk_put (cs := #[.int .i64 (wrap64 (bt a0 a1)), .int .i64 0, .slice none 0 0, .string (⟨#[]⟩ : ByteArray)]) ?_ 1 _ rfl; (with_reducible repeat (first | refine bn ?_ _ | refine bd ?_ | refine ba ?_ _)); refine blk_put (cs := #[.int .i64 0, .int .i64 0, .slice none 0 0, .string (⟨#[]⟩ : ByteArray)]) ?_ 0 _ rfl; (with_reducible repeat (first | refine bn ?_ _ | refine bd ?_ | refine ba ?_ _)); exact BK291.out⟩, ⟨by repeat (first | (with_reducible first | exact HB.out | apply bl | apply pN | apply b1 | refine bs ?_ GE289.out | refine bs ?_ GE290.out | refine bs ?_ GE291.out) | exact HB.out | exact HBo.out)⟩⟩
        ·
         replace c26 := Bool.eq_false_iff.mpr c26
         subst c26
         have H1 : ((shuttlecockref03_Exp.f (wrap64 (bt a0 a1))).bind fun t293 => (shuttlecockref04_Decode.j1 kj2 a0 a1 (!t293) 0 0 (⟨#[]⟩ : ByteArray) (wrap64 (bt a0 a1)) 0 (⟨#[]⟩ : ByteArray))) = some (r1, r2, r3, r4, r5, r6) := by rw [if_neg (show ¬ (false = true) by decide)] at H; exact H
         clear H
         have H := H1
         clear H1
         replace H := ob H
         obtain ⟨t293, A300, H⟩ := H
         replace H : (shuttlecockref04_Decode.j1 kj2 a0 a1 (!t293) 0 0 (⟨#[]⟩ : ByteArray) (wrap64 (bt a0 a1)) 0 (⟨#[]⟩ : ByteArray)) = some (r1, r2, r3, r4, r5, r6) := H
         have A30 := Am A300
         clear A300
         have H' := Am H
         clear H
         have hnb31 := NB291_289.out
         have hnc31 := NB289_291.out
         have hnb32 := NB291_290.out
         have hnc32 := NB290_291.out
         have hcz33_0 : w21.cell? ⟨gb291, 0, none⟩ = some (.int .i64 0) := (bc BK291.out 0).trans rfl
         have hcz33_1 : w21.cell? ⟨gb291, 1, none⟩ = some (.int .i64 0) := (bc BK291.out 1).trans rfl
         have hcz33_2 : w21.cell? ⟨gb291, 2, none⟩ = some (.slice none 0 0) := (bc BK291.out 2).trans rfl
         have hcz33_3 : w21.cell? ⟨gb291, 3, none⟩ = some (.string (⟨#[]⟩ : ByteArray)) := (bc BK291.out 3).trans rfl
         have hfz33_0 := bf BK291.out 0
         have hfz33_1 := bf BK291.out 1
         have hfz33_2 := bf BK291.out 2
         have hfz33_3 := bf BK291.out 3
         go_wp2_with (first | ((with_reducible refine gate_callee (f := 36) rfl ?_); refine goesL_ (some 42) rfl rfl Try.func36 (by kernel_rfl) rfl #[.int .i64 (wrap64 (bt a0 a1))] rfl (by (try simp only [List.map_toArray, List.map_cons, List.map_nil]); first | done | rfl | (simp only [List.length_drop, List.length_take]; rfl)) ?_; (with_reducible refine (shuttlecockref03_Known.calls (wrap64 (bt a0 a1)) false _ A25.out).mono ?_); rintro e w' ⟨rfl, ⟨nd, rfl⟩⟩; refine ⟨_, rfl, ?_⟩) | (go_at_call 35; (with_reducible refine (shuttlecockref03_Exp.calls (wrap64 (bt a0 a1)) t293 _ A30.out).mono ?_); rintro e w' ⟨rfl, ⟨nd, rfl⟩⟩))
         go_meet
         case rel => exact ⟨_, (!t293), (by first | rfl | (simp; done) | (simp [*]; done)), H', ⟨by have := HJ2.out; first | omega | exact Nat.le_refl _⟩, ⟨by (with_reducible repeat (first | refine bn ?_ _ | refine bd ?_ | refine ba ?_ _)); refine blk_far ?_ NB289_291.out _; (with_reducible repeat (first | refine bn ?_ _ | refine bd ?_ | refine ba ?_ _)); refine blk_far ?_ NB289_291.out _; (with_reducible repeat (first | refine bn ?_ _ | refine bd ?_ | refine ba ?_ _)); refine blk_far ?_ NB289_291.out _; (with_reducible repeat (first | refine bn ?_ _ | refine bd ?_ | refine ba ?_ _)); refine blk_far ?_ NB289_291.out _; (with_reducible repeat (first | refine bn ?_ _ | refine bd ?_ | refine ba ?_ _)); exact BK289.out⟩, ⟨by (with_reducible repeat (first | refine bn ?_ _ | refine bd ?_ | refine ba ?_ _)); refine blk_far ?_ NB290_291.out _; (with_reducible repeat (first | refine bn ?_ _ | refine bd ?_ | refine ba ?_ _)); refine blk_far ?_ NB290_291.out _; (with_reducible repeat (first | refine bn ?_ _ | refine bd ?_ | refine ba ?_ _)); refine blk_far ?_ NB290_291.out _; (with_reducible repeat (first | refine bn ?_ _ | refine bd ?_ | refine ba ?_ _)); refine blk_far ?_ NB290_291.out _; (with_reducible repeat (first | refine bn ?_ _ | refine bd ?_ | refine ba ?_ _)); exact BK290.out⟩, ⟨by (with_reducible repeat (first | refine bn ?_ _ | refine bd ?_ | refine ba ?_ _)); refine blk_put (cs := #[.int .i64 (wrap64 (bt a0 a1)), .int .i64 0, .slice none 0 0, .string (⟨#[]⟩ : ByteArray)]) ?_ 3 _ rfl; (with_reducible repeat (first | refine bn ?_ _ | refine bd ?_ | refine ba ?_ _)); refine blk_put (cs := #[.int .i64 (wrap64 (bt a0 a1)), .int .i64 0, .slice none 0 0, .string (⟨#[]⟩ : ByteArray)]) ?_ 2 _ rfl; (with_reducible repeat (first | refine bn ?_ _ | refine bd ?_ | refine ba ?_ _)); refine blk_put (cs := #[.int .i64 (wrap64 (bt a0 a1)), .int .i64 0, .slice none 0 0, .string (⟨#[]⟩ : ByteArray)]) ?_ 1 _ rfl; (with_reducible repeat (first | refine bn ?_ _ | refine bd ?_ | refine ba ?_ _)); refine blk_put (cs := #[.int .i64 0, .int .i64 0, .slice none 0 0, .string (⟨#[]⟩ : ByteArray)]) ?_ 0 _ rfl; (with_reducible repeat (first | refine bn ?_ _ | refine bd ?_ | refine ba ?_ _)); exact BK291.out⟩, ⟨by repeat (first | (with_reducible first | exact HB.out | apply bl | apply pN | apply b1 | refine bs ?_ GE289.out | refine bs ?_ GE290.out | refine bs ?_ GE291.out) | exact HB.out | exact HBo.out)⟩⟩
       case rest =>
        clear HC20
        try clear c1
        try clear p1
        try clear q1
        try clear hx1
        try clear c2
        try clear p2
        try clear c3
        try clear c6
        try clear p6
        try clear c8
        try clear c8b0
        try clear c9
        try clear c10
        try clear c13
        try clear c13b0
        try clear c13b1
        try clear c14
        try clear c17
        try clear c17b0
        try clear c18
        try clear c18b0
        try clear p19
        try clear q19
        try clear hx19
        try clear c22
        try clear c23
        try clear c25
        try clear c26
        try clear c27
        try clear c28
        try clear c31
        try clear c32
        try clear hcz11_0
        try clear hcz11_1
        try clear hcz11_2
        try clear hcz11_3
        try clear hcz12_0
        try clear hcz12_1
        try clear hcz12_2
        try clear hcz12_3
        try clear hcz15_0
        try clear hcz15_1
        try clear hcz15_2
        try clear hcz15_3
        try clear hcz16_0
        try clear hcz16_1
        try clear hcz16_2
        try clear hcz16_3
        try clear hcz24_0
        try clear hcz24_1
        try clear hcz24_2
        try clear hcz24_3
        try clear hcz29_0
        try clear hcz29_1
        try clear hcz29_2
        try clear hcz29_3
        try clear hcz33_0
        try clear hcz33_1
        try clear hcz33_2
        try clear hcz33_3
        try clear hcz7_0
        try clear hcz7_1
        try clear hcz7_2
        try clear hcz7_3
        try clear hfz11_0
        try clear hfz11_1
        try clear hfz11_2
        try clear hfz11_3
        try clear hfz12_0
        try clear hfz12_1
        try clear hfz12_2
        try clear hfz12_3
        try clear hfz15_0
        try clear hfz15_1
        try clear hfz15_2
        try clear hfz15_3
        try clear hfz16_0
        try clear hfz16_1
        try clear hfz16_2
        try clear hfz16_3
        try clear hfz24_0
        try clear hfz24_1
        try clear hfz24_2
        try clear hfz24_3
        try clear hfz29_0
        try clear hfz29_1
        try clear hfz29_2
        try clear hfz29_3
        try clear hfz33_0
        try clear hfz33_1
        try clear hfz33_2
        try clear hfz33_3
        try clear hfz7_0
        try clear hfz7_1
        try clear hfz7_2
        try clear hfz7_3
        try clear p19
        try clear p2
        try clear q19
        obtain ⟨kq, x49_19, rfl, HA, HJ19, BK289, BK290, BK291, HB⟩ := hcut
        cases kq with
        | zero => exact absurd HA.out (by simp [shuttlecockref04_Decode.j1])
        | succ kj19 =>
         have H := HA.out
         clear HA
         simp only [shuttlecockref04_Decode.j1] at H
         by_cases c34 : x49_19 = true
         ·
          subst c34
          have H1 : (some (0, 0, ([] : List Int), (⟨#[]⟩ : ByteArray), 0, 30)) = some (r1, r2, r3, r4, r5, r6) := by rw [if_pos rfl] at H; exact H
          clear H
          have H := H1
          clear H1
          simp only [Option.some.injEq, Prod.mk.injEq] at H
          obtain ⟨rfl, rfl, rfl, rfl, rfl, rfl⟩ := H
          have hnb35 := NB290_289.out
          have hnc35 := NB289_290.out
          have hnb36 := NB290_291.out
          have hnc36 := NB291_290.out
          have hcz37_0 : wc.cell? ⟨gb290, 0, none⟩ = some (.int .i64 0) := (bc BK290.out 0).trans rfl
          have hcz37_1 : wc.cell? ⟨gb290, 1, none⟩ = some (.int .i64 0) := (bc BK290.out 1).trans rfl
          have hcz37_2 : wc.cell? ⟨gb290, 2, none⟩ = some (.slice none 0 0) := (bc BK290.out 2).trans rfl
          have hcz37_3 : wc.cell? ⟨gb290, 3, none⟩ = some (.string (⟨#[]⟩ : ByteArray)) := (bc BK290.out 3).trans rfl
          have hfz37_0 := bf BK290.out 0
          have hfz37_1 := bf BK290.out 1
          have hfz37_2 := bf BK290.out 2
          have hfz37_3 := bf BK290.out 3
          have hnb38 := NB289_291.out
          have hnc38 := NB291_289.out
          have hcz39_0 : wc.cell? ⟨gb289, 0, none⟩ = some (.int .i64 0) := (bc BK289.out 0).trans rfl
          have hcz39_1 : wc.cell? ⟨gb289, 1, none⟩ = some (.int .i64 0) := (bc BK289.out 1).trans rfl
          have hcz39_2 : wc.cell? ⟨gb289, 2, none⟩ = some (.slice none 0 0) := (bc BK289.out 2).trans rfl
          have hcz39_3 : wc.cell? ⟨gb289, 3, none⟩ = some (.string (⟨#[]⟩ : ByteArray)) := (bc BK289.out 3).trans rfl
          have hfz39_0 := bf BK289.out 0
          have hfz39_1 := bf BK289.out 1
          have hfz39_2 := bf BK289.out 2
          have hfz39_3 := bf BK289.out 3
          go_wp2
          refine bodyPost_ret (results_ctt rfl _ _ gb289 28 #[.int .i64 0, .int .i64 0, .slice none 0 0, .string (⟨#[]⟩ : ByteArray)] (0, 0) _ rfl (by (with_reducible repeat (first | refine bn ?_ _ | refine bd ?_ | refine ba ?_ _)); refine blk_put (cs := #[.int .i64 0, .int .i64 0, .slice none 0 0, .string (⟨#[]⟩ : ByteArray)]) ?_ 3 _ rfl; (with_reducible repeat (first | refine bn ?_ _ | refine bd ?_ | refine ba ?_ _)); refine blk_put (cs := #[.int .i64 0, .int .i64 0, .slice none 0 0, .string (⟨#[]⟩ : ByteArray)]) ?_ 2 _ rfl; (with_reducible repeat (first | refine bn ?_ _ | refine bd ?_ | refine ba ?_ _)); refine blk_put (cs := #[.int .i64 0, .int .i64 0, .slice none 0 0, .string (⟨#[]⟩ : ByteArray)]) ?_ 1 _ rfl; (with_reducible repeat (first | refine bn ?_ _ | refine bd ?_ | refine ba ?_ _)); refine blk_put (cs := #[.int .i64 0, .int .i64 0, .slice none 0 0, .string (⟨#[]⟩ : ByteArray)]) ?_ 0 _ rfl; (with_reducible repeat (first | refine bn ?_ _ | refine bd ?_ | refine ba ?_ _)); exact BK289.out) Try.underlying28 rfl (by kernel_rfl)) rfl ?_
          exact ⟨_, by first | rfl | (simp [errW_none, errW_some] <;> rfl) | (simp [*, errW_none, errW_some] <;> rfl) | (simp [Aid.ne_nil, Aid.eq_nil, errW_none, errW_some]; done), by first | exact Kd.R_nil _ _ _ _ _ | exact Kd.N_nil _ _ _ _ _ | exact Kd.V_nil _ _ _ _ _ | exact Kd.Q_nil _ _ _ _ _ | exact Kd.S_nil _ _ _ _ _, by repeat (first | (with_reducible first | exact HB.out | apply bl | apply pN | apply b1 | refine bs ?_ GE289.out | refine bs ?_ GE290.out | refine bs ?_ GE291.out) | exact HB.out | exact HBo.out)⟩
         ·
          replace c34 := Bool.eq_false_iff.mpr c34
          subst c34
          have H1 : ((shuttlecockref01_Take.f kj19 a0 (wrap64 (a1 + 1))).bind fun bt294 => (if bt294.2.2 = 0 then ((shuttlecockref03_Exp.f (wrap64 (bt a0 a1))).bind fun t297 => (if t297 = true then ((shuttlecockref01_Take.f kj19 a0 bt294.2.1).bind fun bt298 => (if bt298.2.2 = 0 then (if bt298.1 > (wrap64 ((a0.size : Int) - bt298.2.1)) then (some (0, 0, ([] : List Int), (⟨#[]⟩ : ByteArray), 0, 10)) else (if 0 ≤ bt298.2.1 then (if bt298.2.1 ≤ (wrap64 (bt298.2.1 + bt298.1)) then (if (wrap64 (bt298.2.1 + bt298.1)) ≤ (a0.size : Int) then (some ((wrap64 (bt a0 a1)), bt294.1, ([] : List Int), a0.extract (bt298.2.1 : Int).toNat ((wrap64 (bt298.2.1 + bt298.1)) : Int).toNat, wrap64 (bt298.2.1 + bt298.1), 0)) else (none)) else (none)) else (none))) else (some (0, 0, ([] : List Int), (⟨#[]⟩ : ByteArray), 0, bt298.2.2)))) else ((shuttlecockref03_Args.f kj19 (wrap64 (bt a0 a1))).bind fun t301 => (shuttlecockref04_Decode.l0 kj19 a0 bt294.2.1 (t301.length : Int) 0 0 0 (⟨#[]⟩ : ByteArray) (wrap64 (bt a0 a1)) bt294.1 ([] : List Int) (⟨#[]⟩ : ByteArray))))) else (some (0, 0, ([] : List Int), (⟨#[]⟩ : ByteArray), 0, bt294.2.2)))) = some (r1, r2, r3, r4, r5, r6) := by rw [if_neg (show ¬ (false = true) by decide)] at H; exact H
          clear H
          have H := H1
          clear H1
          replace H := ob H
          obtain ⟨⟨t294, t295, t296⟩, A400, H⟩ := H
          replace H : (if t296 = 0 then ((shuttlecockref03_Exp.f (wrap64 (bt a0 a1))).bind fun t297 => (if t297 = true then ((shuttlecockref01_Take.f kj19 a0 t295).bind fun bt298 => (if bt298.2.2 = 0 then (if bt298.1 > (wrap64 ((a0.size : Int) - bt298.2.1)) then (some (0, 0, ([] : List Int), (⟨#[]⟩ : ByteArray), 0, 10)) else (if 0 ≤ bt298.2.1 then (if bt298.2.1 ≤ (wrap64 (bt298.2.1 + bt298.1)) then (if (wrap64 (bt298.2.1 + bt298.1)) ≤ (a0.size : Int) then (some ((wrap64 (bt a0 a1)), t294, ([] : List Int), a0.extract (bt298.2.1 : Int).toNat ((wrap64 (bt298.2.1 + bt298.1)) : Int).toNat, wrap64 (bt298.2.1 + bt298.1), 0)) else (none)) else (none)) else (none))) else (some (0, 0, ([] : List Int), (⟨#[]⟩ : ByteArray), 0, bt298.2.2)))) else ((shuttlecockref03_Args.f kj19 (wrap64 (bt a0 a1))).bind fun t301 => (shuttlecockref04_Decode.l0 kj19 a0 t295 (t301.length : Int) 0 0 0 (⟨#[]⟩ : ByteArray) (wrap64 (bt a0 a1)) t294 ([] : List Int) (⟨#[]⟩ : ByteArray))))) else (some (0, 0, ([] : List Int), (⟨#[]⟩ : ByteArray), 0, t296))) = some (r1, r2, r3, r4, r5, r6) := H
          have A40 := Am A400
          clear A400
          by_cases c41 : t296 = 0
          ·
           rw [if_pos c41] at H
           have c41b0 : (t296 == 0) = true := beq_iff_eq.mpr c41
           have c41b1 : (t296 != 0) = false := bne_eq_false_iff_eq.mpr c41
           clear c41
           replace H := ob H
           obtain ⟨t297, A420, H⟩ := H
           replace H : (if t297 = true then ((shuttlecockref01_Take.f kj19 a0 t295).bind fun bt298 => (if bt298.2.2 = 0 then (if bt298.1 > (wrap64 ((a0.size : Int) - bt298.2.1)) then (some (0, 0, ([] : List Int), (⟨#[]⟩ : ByteArray), 0, 10)) else (if 0 ≤ bt298.2.1 then (if bt298.2.1 ≤ (wrap64 (bt298.2.1 + bt298.1)) then (if (wrap64 (bt298.2.1 + bt298.1)) ≤ (a0.size : Int) then (some ((wrap64 (bt a0 a1)), t294, ([] : List Int), a0.extract (bt298.2.1 : Int).toNat ((wrap64 (bt298.2.1 + bt298.1)) : Int).toNat, wrap64 (bt298.2.1 + bt298.1), 0)) else (none)) else (none)) else (none))) else (some (0, 0, ([] : List Int), (⟨#[]⟩ : ByteArray), 0, bt298.2.2)))) else ((shuttlecockref03_Args.f kj19 (wrap64 (bt a0 a1))).bind fun t301 => (shuttlecockref04_Decode.l0 kj19 a0 t295 (t301.length : Int) 0 0 0 (⟨#[]⟩ : ByteArray) (wrap64 (bt a0 a1)) t294 ([] : List Int) (⟨#[]⟩ : ByteArray)))) = some (r1, r2, r3, r4, r5, r6) := H
           have A42 := Am A420
           clear A420
           by_cases c43 : t297 = true
           ·
            subst c43
            have H1 : ((shuttlecockref01_Take.f kj19 a0 t295).bind fun bt298 => (if bt298.2.2 = 0 then (if bt298.1 > (wrap64 ((a0.size : Int) - bt298.2.1)) then (some (0, 0, ([] : List Int), (⟨#[]⟩ : ByteArray), 0, 10)) else (if 0 ≤ bt298.2.1 then (if bt298.2.1 ≤ (wrap64 (bt298.2.1 + bt298.1)) then (if (wrap64 (bt298.2.1 + bt298.1)) ≤ (a0.size : Int) then (some ((wrap64 (bt a0 a1)), t294, ([] : List Int), a0.extract (bt298.2.1 : Int).toNat ((wrap64 (bt298.2.1 + bt298.1)) : Int).toNat, wrap64 (bt298.2.1 + bt298.1), 0)) else (none)) else (none)) else (none))) else (some (0, 0, ([] : List Int), (⟨#[]⟩ : ByteArray), 0, bt298.2.2)))) = some (r1, r2, r3, r4, r5, r6) := by rw [if_pos rfl] at H; exact H
            clear H
            have H := H1
            clear H1
            replace H := ob H
            obtain ⟨⟨t298, t299, t300⟩, A440, H⟩ := H
            replace H : (if t300 = 0 then (if t298 > (wrap64 ((a0.size : Int) - t299)) then (some (0, 0, ([] : List Int), (⟨#[]⟩ : ByteArray), 0, 10)) else (if 0 ≤ t299 then (if t299 ≤ (wrap64 (t299 + t298)) then (if (wrap64 (t299 + t298)) ≤ (a0.size : Int) then (some ((wrap64 (bt a0 a1)), t294, ([] : List Int), a0.extract (t299 : Int).toNat ((wrap64 (t299 + t298)) : Int).toNat, wrap64 (t299 + t298), 0)) else (none)) else (none)) else (none))) else (some (0, 0, ([] : List Int), (⟨#[]⟩ : ByteArray), 0, t300))) = some (r1, r2, r3, r4, r5, r6) := H
            have A44 := Am A440
            clear A440
            by_cases c45 : t300 = 0
            ·
             rw [if_pos c45] at H
             have c45b0 : (t300 == 0) = true := beq_iff_eq.mpr c45
             have c45b1 : (t300 != 0) = false := bne_eq_false_iff_eq.mpr c45
             clear c45
             by_cases c46 : t298 > (wrap64 ((a0.size : Int) - t299))
             ·
              rw [if_pos c46] at H
              have c46b0 : decide ((wrap64 ((a0.size : Int) - t299)) < t298) = true := decide_eq_true c46
              clear c46
              simp only [Option.some.injEq, Prod.mk.injEq] at H
              obtain ⟨rfl, rfl, rfl, rfl, rfl, rfl⟩ := H
              go_wp2_with (first | ((with_reducible refine gate_callee (f := 42) rfl ?_); refine goesL_ (some 55) rfl rfl Try.func42 (by kernel_rfl) rfl #[.string a0, .int .i64 (wrap64 (a1 + 1))] rfl (by (try simp only [List.map_toArray, List.map_cons, List.map_nil]); first | done | rfl | (simp only [List.length_drop, List.length_take]; rfl)) ?_; (with_reducible refine (shuttlecockref01_Take.calls kj19 a0 (wrap64 (a1 + 1)) t294 t295 t296 _ A40.out).mono ?_); rintro e w47 ⟨rfl, hb⟩; refine ⟨_, rfl, ?_⟩; have n0_ := Am (blk_below (g := gb289) (o := .cells #[.int .i64 0, .int .i64 0, .slice none 0 0, .string (⟨#[]⟩ : ByteArray)] 28 (0, 0)) (by (with_reducible repeat (first | refine bn ?_ _ | refine bd ?_ | refine ba ?_ _)); exact BK289.out) hb); have n1_ := Am (blk_below (g := gb290) (o := .cells #[.int .i64 0, .int .i64 0, .slice none 0 0, .string (⟨#[]⟩ : ByteArray)] 28 (0, 0)) (by (with_reducible repeat (first | refine bn ?_ _ | refine bd ?_ | refine ba ?_ _)); exact BK290.out) hb); have n2_ := Am (blk_below (g := gb291) (o := .cells #[.int .i64 (wrap64 (bt a0 a1)), .int .i64 0, .slice none 0 0, .string (⟨#[]⟩ : ByteArray)] 28 (0, 0)) (by (with_reducible repeat (first | refine bn ?_ _ | refine bd ?_ | refine ba ?_ _)); exact BK291.out) hb); have n3_ := Am (below_step (by repeat (first | (with_reducible first | exact HB.out | apply bl | apply pN | apply b1 | refine bs ?_ GE289.out | refine bs ?_ GE290.out | refine bs ?_ GE291.out) | exact HB.out | exact HBo.out)) hb); clear BK289; clear BK290; clear BK291; clear HB; have BK289 := n0_; have BK290 := n1_; have BK291 := n2_; have HB := n3_; clear n0_ n1_ n2_ n3_; (try clear hb); (try clear hb2); (try clear hk); (try clear hi); have hnb48 := NB291_289.out; have hnc48 := NB289_291.out; have hnb49 := NB291_290.out; have hnc49 := NB290_291.out; have hcz50_0 : w47.cell? ⟨gb291, 0, none⟩ = some (.int .i64 (wrap64 (bt a0 a1))) := (bc BK291.out 0).trans rfl; have hcz50_1 : w47.cell? ⟨gb291, 1, none⟩ = some (.int .i64 0) := (bc BK291.out 1).trans rfl; have hcz50_2 : w47.cell? ⟨gb291, 2, none⟩ = some (.slice none 0 0) := (bc BK291.out 2).trans rfl; have hcz50_3 : w47.cell? ⟨gb291, 3, none⟩ = some (.string (⟨#[]⟩ : ByteArray)) := (bc BK291.out 3).trans rfl; have hfz50_0 := bf BK291.out 0; have hfz50_1 := bf BK291.out 1; have hfz50_2 := bf BK291.out 2; have hfz50_3 := bf BK291.out 3) | ((with_reducible refine gate_callee (f := 35) rfl ?_); refine goesL_ (some 67) rfl rfl Try.func35 (by kernel_rfl) rfl #[.int .i64 (wrap64 (bt a0 a1))] rfl (by (try simp only [List.map_toArray, List.map_cons, List.map_nil]); first | done | rfl | (simp only [List.length_drop, List.length_take]; rfl)) ?_; (with_reducible refine (shuttlecockref03_Exp.calls (wrap64 (bt a0 a1)) true _ A42.out).mono ?_); rintro e w' ⟨rfl, ⟨nd, rfl⟩⟩; refine ⟨_, rfl, ?_⟩) | ((with_reducible refine gate_callee (f := 42) rfl ?_); refine goesL_ (some 71) rfl rfl Try.func42 (by kernel_rfl) rfl #[.string a0, .int .i64 t295] rfl (by (try simp only [List.map_toArray, List.map_cons, List.map_nil]); first | done | rfl | (simp only [List.length_drop, List.length_take]; rfl)) ?_; (with_reducible refine (shuttlecockref01_Take.calls kj19 a0 t295 t298 t299 t300 _ A44.out).mono ?_); rintro e w51 ⟨rfl, hb⟩; refine ⟨_, rfl, ?_⟩; have n0_ := Am (blk_below (g := gb289) (o := .cells #[.int .i64 0, .int .i64 0, .slice none 0 0, .string (⟨#[]⟩ : ByteArray)] 28 (0, 0)) (by (with_reducible repeat (first | refine bn ?_ _ | refine bd ?_ | refine ba ?_ _)); refine blk_far ?_ NB289_291.out _; (with_reducible repeat (first | refine bn ?_ _ | refine bd ?_ | refine ba ?_ _)); exact BK289.out) hb); have n1_ := Am (blk_below (g := gb290) (o := .cells #[.int .i64 0, .int .i64 0, .slice none 0 0, .string (⟨#[]⟩ : ByteArray)] 28 (0, 0)) (by (with_reducible repeat (first | refine bn ?_ _ | refine bd ?_ | refine ba ?_ _)); refine blk_far ?_ NB290_291.out _; (with_reducible repeat (first | refine bn ?_ _ | refine bd ?_ | refine ba ?_ _)); exact BK290.out) hb); have n2_ := Am (blk_below (g := gb291) (o := .cells #[.int .i64 (wrap64 (bt a0 a1)), .int .i64 t294, .slice none 0 0, .string (⟨#[]⟩ : ByteArray)] 28 (0, 0)) (by (with_reducible repeat (first | refine bn ?_ _ | refine bd ?_ | refine ba ?_ _)); refine blk_put (cs := #[.int .i64 (wrap64 (bt a0 a1)), .int .i64 0, .slice none 0 0, .string (⟨#[]⟩ : ByteArray)]) ?_ 1 _ rfl; (with_reducible repeat (first | refine bn ?_ _ | refine bd ?_ | refine ba ?_ _)); exact BK291.out) hb); have n3_ := Am (below_step (by repeat (first | (with_reducible first | exact HB.out | apply bl | apply pN | apply b1 | refine bs ?_ GE289.out | refine bs ?_ GE290.out | refine bs ?_ GE291.out) | exact HB.out | exact HBo.out)) hb); clear BK289; clear BK290; clear BK291; clear HB; have BK289 := n0_; have BK290 := n1_; have BK291 := n2_; have HB := n3_; clear n0_ n1_ n2_ n3_; (try clear hb); (try clear hb2); (try clear hk); (try clear hi); have hnb52 := NB290_289.out; have hnc52 := NB289_290.out; have hcz53_0 : w51.cell? ⟨gb290, 0, none⟩ = some (.int .i64 0) := (bc BK290.out 0).trans rfl; have hcz53_1 : w51.cell? ⟨gb290, 1, none⟩ = some (.int .i64 0) := (bc BK290.out 1).trans rfl; have hcz53_2 : w51.cell? ⟨gb290, 2, none⟩ = some (.slice none 0 0) := (bc BK290.out 2).trans rfl; have hcz53_3 : w51.cell? ⟨gb290, 3, none⟩ = some (.string (⟨#[]⟩ : ByteArray)) := (bc BK290.out 3).trans rfl; have hfz53_0 := bf BK290.out 0; have hfz53_1 := bf BK290.out 1; have hfz53_2 := bf BK290.out 2; have hfz53_3 := bf BK290.out 3; have hcz54_0 : w51.cell? ⟨gb289, 0, none⟩ = some (.int .i64 0) := (bc BK289.out 0).trans rfl; have hcz54_1 : w51.cell? ⟨gb289, 1, none⟩ = some (.int .i64 0) := (bc BK289.out 1).trans rfl; have hcz54_2 : w51.cell? ⟨gb289, 2, none⟩ = some (.slice none 0 0) := (bc BK289.out 2).trans rfl; have hcz54_3 : w51.cell? ⟨gb289, 3, none⟩ = some (.string (⟨#[]⟩ : ByteArray)) := (bc BK289.out 3).trans rfl; have hfz54_0 := bf BK289.out 0; have hfz54_1 := bf BK289.out 1; have hfz54_2 := bf BK289.out 2; have hfz54_3 := bf BK289.out 3))
              refine bodyPost_ret (results_ctt rfl _ _ gb289 28 #[.int .i64 0, .int .i64 0, .slice none 0 0, .string (⟨#[]⟩ : ByteArray)] (0, 0) _ rfl (by (with_reducible repeat (first | refine bn ?_ _ | refine bd ?_ | refine ba ?_ _)); refine blk_put (cs := #[.int .i64 0, .int .i64 0, .slice none 0 0, .string (⟨#[]⟩ : ByteArray)]) ?_ 3 _ rfl; (with_reducible repeat (first | refine bn ?_ _ | refine bd ?_ | refine ba ?_ _)); refine blk_put (cs := #[.int .i64 0, .int .i64 0, .slice none 0 0, .string (⟨#[]⟩ : ByteArray)]) ?_ 2 _ rfl; (with_reducible repeat (first | refine bn ?_ _ | refine bd ?_ | refine ba ?_ _)); refine blk_put (cs := #[.int .i64 0, .int .i64 0, .slice none 0 0, .string (⟨#[]⟩ : ByteArray)]) ?_ 1 _ rfl; (with_reducible repeat (first | refine bn ?_ _ | refine bd ?_ | refine ba ?_ _)); refine blk_put (cs := #[.int .i64 0, .int .i64 0, .slice none 0 0, .string (⟨#[]⟩ : ByteArray)]) ?_ 0 _ rfl; (with_reducible repeat (first | refine bn ?_ _ | refine bd ?_ | refine ba ?_ _)); exact BK289.out) Try.underlying28 rfl (by kernel_rfl)) rfl ?_
              exact ⟨_, by first | rfl | (simp [errW_none, errW_some] <;> rfl) | (simp [*, errW_none, errW_some] <;> rfl) | (simp [Aid.ne_nil, Aid.eq_nil, errW_none, errW_some]; done), by first | exact Kd.R_nil _ _ _ _ _ | exact Kd.N_nil _ _ _ _ _ | exact Kd.V_nil _ _ _ _ _ | exact Kd.Q_nil _ _ _ _ _ | exact Kd.S_nil _ _ _ _ _, by repeat (first | (with_reducible first | exact HB.out | apply bl | apply pN | apply b1 | refine bs ?_ GE289.out | refine bs ?_ GE290.out | refine bs ?_ GE291.out) | exact HB.out | exact HBo.out)⟩
             ·
              rw [if_neg c46] at H
              have c46b0 : decide ((wrap64 ((a0.size : Int) - t299)) < t298) = false := decide_eq_false c46
              clear c46
              by_cases c55 : 0 ≤ t299
              ·
               rw [if_pos c55] at H
               have c55b0 := eq_true c55
               have c55b1 : decide (0 ≤ t299) = true := decide_eq_true c55
               clear c55
               by_cases c56 : t299 ≤ (wrap64 (t299 + t298))
               ·
                rw [if_pos c56] at H
                have c56b0 := eq_true c56
                have c56b1 : decide (t299 ≤ (wrap64 (t299 + t298))) = true := decide_eq_true c56
                by_cases c57 : (wrap64 (t299 + t298)) ≤ (a0.size : Int)
                ·
                 rw [if_pos c57] at H
                 have c57b0 := eq_true c57
                 have c57b1 : decide ((wrap64 (t299 + t298)) ≤ (a0.size : Int)) = true := decide_eq_true c57
                 simp only [Option.some.injEq, Prod.mk.injEq] at H
                 obtain ⟨rfl, rfl, rfl, rfl, rfl, rfl⟩ := H
                 go_wp2_with (first | ((with_reducible refine gate_callee (f := 42) rfl ?_); refine goesL_ (some 55) rfl rfl Try.func42 (by kernel_rfl) rfl #[.string a0, .int .i64 (wrap64 (a1 + 1))] rfl (by (try simp only [List.map_toArray, List.map_cons, List.map_nil]); first | done | rfl | (simp only [List.length_drop, List.length_take]; rfl)) ?_; (with_reducible refine (shuttlecockref01_Take.calls kj19 a0 (wrap64 (a1 + 1)) t294 t295 t296 _ A40.out).mono ?_); rintro e w58 ⟨rfl, hb⟩; refine ⟨_, rfl, ?_⟩; have n0_ := Am (blk_below (g := gb289) (o := .cells #[.int .i64 0, .int .i64 0, .slice none 0 0, .string (⟨#[]⟩ : ByteArray)] 28 (0, 0)) (by (with_reducible repeat (first | refine bn ?_ _ | refine bd ?_ | refine ba ?_ _)); exact BK289.out) hb); have n1_ := Am (blk_below (g := gb290) (o := .cells #[.int .i64 0, .int .i64 0, .slice none 0 0, .string (⟨#[]⟩ : ByteArray)] 28 (0, 0)) (by (with_reducible repeat (first | refine bn ?_ _ | refine bd ?_ | refine ba ?_ _)); exact BK290.out) hb); have n2_ := Am (blk_below (g := gb291) (o := .cells #[.int .i64 (wrap64 (bt a0 a1)), .int .i64 0, .slice none 0 0, .string (⟨#[]⟩ : ByteArray)] 28 (0, 0)) (by (with_reducible repeat (first | refine bn ?_ _ | refine bd ?_ | refine ba ?_ _)); exact BK291.out) hb); have n3_ := Am (below_step (by repeat (first | (with_reducible first | exact HB.out | apply bl | apply pN | apply b1 | refine bs ?_ GE289.out | refine bs ?_ GE290.out | refine bs ?_ GE291.out) | exact HB.out | exact HBo.out)) hb); clear BK289; clear BK290; clear BK291; clear HB; have BK289 := n0_; have BK290 := n1_; have BK291 := n2_; have HB := n3_; clear n0_ n1_ n2_ n3_; (try clear hb); (try clear hb2); (try clear hk); (try clear hi); have hnb59 := NB291_289.out; have hnc59 := NB289_291.out; have hnb60 := NB291_290.out; have hnc60 := NB290_291.out; have hcz61_0 : w58.cell? ⟨gb291, 0, none⟩ = some (.int .i64 (wrap64 (bt a0 a1))) := (bc BK291.out 0).trans rfl; have hcz61_1 : w58.cell? ⟨gb291, 1, none⟩ = some (.int .i64 0) := (bc BK291.out 1).trans rfl; have hcz61_2 : w58.cell? ⟨gb291, 2, none⟩ = some (.slice none 0 0) := (bc BK291.out 2).trans rfl; have hcz61_3 : w58.cell? ⟨gb291, 3, none⟩ = some (.string (⟨#[]⟩ : ByteArray)) := (bc BK291.out 3).trans rfl; have hfz61_0 := bf BK291.out 0; have hfz61_1 := bf BK291.out 1; have hfz61_2 := bf BK291.out 2; have hfz61_3 := bf BK291.out 3) | ((with_reducible refine gate_callee (f := 35) rfl ?_); refine goesL_ (some 67) rfl rfl Try.func35 (by kernel_rfl) rfl #[.int .i64 (wrap64 (bt a0 a1))] rfl (by (try simp only [List.map_toArray, List.map_cons, List.map_nil]); first | done | rfl | (simp only [List.length_drop, List.length_take]; rfl)) ?_; (with_reducible refine (shuttlecockref03_Exp.calls (wrap64 (bt a0 a1)) true _ A42.out).mono ?_); rintro e w' ⟨rfl, ⟨nd, rfl⟩⟩; refine ⟨_, rfl, ?_⟩) | ((with_reducible refine gate_callee (f := 42) rfl ?_); refine goesL_ (some 71) rfl rfl Try.func42 (by kernel_rfl) rfl #[.string a0, .int .i64 t295] rfl (by (try simp only [List.map_toArray, List.map_cons, List.map_nil]); first | done | rfl | (simp only [List.length_drop, List.length_take]; rfl)) ?_; (with_reducible refine (shuttlecockref01_Take.calls kj19 a0 t295 t298 t299 t300 _ A44.out).mono ?_); rintro e w62 ⟨rfl, hb⟩; refine ⟨_, rfl, ?_⟩; have n0_ := Am (blk_below (g := gb289) (o := .cells #[.int .i64 0, .int .i64 0, .slice none 0 0, .string (⟨#[]⟩ : ByteArray)] 28 (0, 0)) (by (with_reducible repeat (first | refine bn ?_ _ | refine bd ?_ | refine ba ?_ _)); refine blk_far ?_ NB289_291.out _; (with_reducible repeat (first | refine bn ?_ _ | refine bd ?_ | refine ba ?_ _)); exact BK289.out) hb); have n1_ := Am (blk_below (g := gb290) (o := .cells #[.int .i64 0, .int .i64 0, .slice none 0 0, .string (⟨#[]⟩ : ByteArray)] 28 (0, 0)) (by (with_reducible repeat (first | refine bn ?_ _ | refine bd ?_ | refine ba ?_ _)); refine blk_far ?_ NB290_291.out _; (with_reducible repeat (first | refine bn ?_ _ | refine bd ?_ | refine ba ?_ _)); exact BK290.out) hb); have n2_ := Am (blk_below (g := gb291) (o := .cells #[.int .i64 (wrap64 (bt a0 a1)), .int .i64 t294, .slice none 0 0, .string (⟨#[]⟩ : ByteArray)] 28 (0, 0)) (by (with_reducible repeat (first | refine bn ?_ _ | refine bd ?_ | refine ba ?_ _)); refine blk_put (cs := #[.int .i64 (wrap64 (bt a0 a1)), .int .i64 0, .slice none 0 0, .string (⟨#[]⟩ : ByteArray)]) ?_ 1 _ rfl; (with_reducible repeat (first | refine bn ?_ _ | refine bd ?_ | refine ba ?_ _)); exact BK291.out) hb); have n3_ := Am (below_step (by repeat (first | (with_reducible first | exact HB.out | apply bl | apply pN | apply b1 | refine bs ?_ GE289.out | refine bs ?_ GE290.out | refine bs ?_ GE291.out) | exact HB.out | exact HBo.out)) hb); clear BK289; clear BK290; clear BK291; clear HB; have BK289 := n0_; have BK290 := n1_; have BK291 := n2_; have HB := n3_; clear n0_ n1_ n2_ n3_; (try clear hb); (try clear hb2); (try clear hk); (try clear hi); have hcz63_0 : w62.cell? ⟨gb291, 0, none⟩ = some (.int .i64 (wrap64 (bt a0 a1))) := (bc BK291.out 0).trans rfl; have hcz63_1 : w62.cell? ⟨gb291, 1, none⟩ = some (.int .i64 t294) := (bc BK291.out 1).trans rfl; have hcz63_2 : w62.cell? ⟨gb291, 2, none⟩ = some (.slice none 0 0) := (bc BK291.out 2).trans rfl; have hcz63_3 : w62.cell? ⟨gb291, 3, none⟩ = some (.string (⟨#[]⟩ : ByteArray)) := (bc BK291.out 3).trans rfl; have hfz63_0 := bf BK291.out 0; have hfz63_1 := bf BK291.out 1; have hfz63_2 := bf BK291.out 2; have hfz63_3 := bf BK291.out 3; have hnb64 := NB289_290.out; have hnc64 := NB290_289.out; have hcz65_0 : w62.cell? ⟨gb289, 0, none⟩ = some (.int .i64 0) := (bc BK289.out 0).trans rfl; have hcz65_1 : w62.cell? ⟨gb289, 1, none⟩ = some (.int .i64 0) := (bc BK289.out 1).trans rfl; have hcz65_2 : w62.cell? ⟨gb289, 2, none⟩ = some (.slice none 0 0) := (bc BK289.out 2).trans rfl; have hcz65_3 : w62.cell? ⟨gb289, 3, none⟩ = some (.string (⟨#[]⟩ : ByteArray)) := (bc BK289.out 3).trans rfl; have hfz65_0 := bf BK289.out 0; have hfz65_1 := bf BK289.out 1; have hfz65_2 := bf BK289.out 2; have hfz65_3 := bf BK289.out 3))
                 refine bodyPost_ret (results_ctt rfl _ _ gb289 28 #[.int .i64 (wrap64 (bt a0 a1)), .int .i64 t294, .slice none 0 0, .string (a0.extract (t299 : Int).toNat ((wrap64 (t299 + t298)) : Int).toNat)] (0, 0) _ rfl (by (with_reducible repeat (first | refine bn ?_ _ | refine bd ?_ | refine ba ?_ _)); refine blk_put (cs := #[.int .i64 (wrap64 (bt a0 a1)), .int .i64 t294, .slice none 0 0, .string (⟨#[]⟩ : ByteArray)]) ?_ 3 _ rfl; (with_reducible repeat (first | refine bn ?_ _ | refine bd ?_ | refine ba ?_ _)); refine blk_put (cs := #[.int .i64 (wrap64 (bt a0 a1)), .int .i64 t294, .slice none 0 0, .string (⟨#[]⟩ : ByteArray)]) ?_ 2 _ rfl; (with_reducible repeat (first | refine bn ?_ _ | refine bd ?_ | refine ba ?_ _)); refine blk_put (cs := #[.int .i64 (wrap64 (bt a0 a1)), .int .i64 0, .slice none 0 0, .string (⟨#[]⟩ : ByteArray)]) ?_ 1 _ rfl; (with_reducible repeat (first | refine bn ?_ _ | refine bd ?_ | refine ba ?_ _)); refine blk_put (cs := #[.int .i64 0, .int .i64 0, .slice none 0 0, .string (⟨#[]⟩ : ByteArray)]) ?_ 0 _ rfl; (with_reducible repeat (first | refine bn ?_ _ | refine bd ?_ | refine ba ?_ _)); refine blk_far ?_ NB289_291.out _; (with_reducible repeat (first | refine bn ?_ _ | refine bd ?_ | refine ba ?_ _)); exact BK289.out) Try.underlying28 rfl (by kernel_rfl)) rfl ?_
                 exact ⟨_, by first | rfl | (simp [errW_none, errW_some] <;> rfl) | (simp [*, errW_none, errW_some] <;> rfl) | (simp [Aid.ne_nil, Aid.eq_nil, errW_none, errW_some]; done), by first | exact Kd.R_nil _ _ _ _ _ | exact Kd.N_nil _ _ _ _ _ | exact Kd.V_nil _ _ _ _ _ | exact Kd.Q_nil _ _ _ _ _ | exact Kd.S_nil _ _ _ _ _, by repeat (first | (with_reducible first | exact HB.out | apply bl | apply pN | apply b1 | refine bs ?_ GE289.out | refine bs ?_ GE290.out | refine bs ?_ GE291.out) | exact HB.out | exact HBo.out)⟩
                ·
                 rw [if_neg c57] at H
                 exact absurd H (by simp)
               ·
                rw [if_neg c56] at H
                exact absurd H (by simp)
              ·
               rw [if_neg c55] at H
               exact absurd H (by simp)
            ·
             rw [if_neg c45] at H
             have c45b0 : (t300 == 0) = false := beq_eq_false_iff_ne.mpr c45
             have c45b1 : (t300 != 0) = true := bne_iff_ne.mpr c45
             simp only [Option.some.injEq, Prod.mk.injEq] at H
             obtain ⟨rfl, rfl, rfl, rfl, rfl, rfl⟩ := H
             go_wp2_with (first | ((with_reducible refine gate_callee (f := 42) rfl ?_); refine goesL_ (some 55) rfl rfl Try.func42 (by kernel_rfl) rfl #[.string a0, .int .i64 (wrap64 (a1 + 1))] rfl (by (try simp only [List.map_toArray, List.map_cons, List.map_nil]); first | done | rfl | (simp only [List.length_drop, List.length_take]; rfl)) ?_; (with_reducible refine (shuttlecockref01_Take.calls kj19 a0 (wrap64 (a1 + 1)) t294 t295 t296 _ A40.out).mono ?_); rintro e w66 ⟨rfl, hb⟩; refine ⟨_, rfl, ?_⟩; have n0_ := Am (blk_below (g := gb289) (o := .cells #[.int .i64 0, .int .i64 0, .slice none 0 0, .string (⟨#[]⟩ : ByteArray)] 28 (0, 0)) (by (with_reducible repeat (first | refine bn ?_ _ | refine bd ?_ | refine ba ?_ _)); exact BK289.out) hb); have n1_ := Am (blk_below (g := gb290) (o := .cells #[.int .i64 0, .int .i64 0, .slice none 0 0, .string (⟨#[]⟩ : ByteArray)] 28 (0, 0)) (by (with_reducible repeat (first | refine bn ?_ _ | refine bd ?_ | refine ba ?_ _)); exact BK290.out) hb); have n2_ := Am (blk_below (g := gb291) (o := .cells #[.int .i64 (wrap64 (bt a0 a1)), .int .i64 0, .slice none 0 0, .string (⟨#[]⟩ : ByteArray)] 28 (0, 0)) (by (with_reducible repeat (first | refine bn ?_ _ | refine bd ?_ | refine ba ?_ _)); exact BK291.out) hb); have n3_ := Am (below_step (by repeat (first | (with_reducible first | exact HB.out | apply bl | apply pN | apply b1 | refine bs ?_ GE289.out | refine bs ?_ GE290.out | refine bs ?_ GE291.out) | exact HB.out | exact HBo.out)) hb); clear BK289; clear BK290; clear BK291; clear HB; have BK289 := n0_; have BK290 := n1_; have BK291 := n2_; have HB := n3_; clear n0_ n1_ n2_ n3_; (try clear hb); (try clear hb2); (try clear hk); (try clear hi); have hnb67 := NB291_289.out; have hnc67 := NB289_291.out; have hnb68 := NB291_290.out; have hnc68 := NB290_291.out; have hcz69_0 : w66.cell? ⟨gb291, 0, none⟩ = some (.int .i64 (wrap64 (bt a0 a1))) := (bc BK291.out 0).trans rfl; have hcz69_1 : w66.cell? ⟨gb291, 1, none⟩ = some (.int .i64 0) := (bc BK291.out 1).trans rfl; have hcz69_2 : w66.cell? ⟨gb291, 2, none⟩ = some (.slice none 0 0) := (bc BK291.out 2).trans rfl; have hcz69_3 : w66.cell? ⟨gb291, 3, none⟩ = some (.string (⟨#[]⟩ : ByteArray)) := (bc BK291.out 3).trans rfl; have hfz69_0 := bf BK291.out 0; have hfz69_1 := bf BK291.out 1; have hfz69_2 := bf BK291.out 2; have hfz69_3 := bf BK291.out 3) | ((with_reducible refine gate_callee (f := 35) rfl ?_); refine goesL_ (some 67) rfl rfl Try.func35 (by kernel_rfl) rfl #[.int .i64 (wrap64 (bt a0 a1))] rfl (by (try simp only [List.map_toArray, List.map_cons, List.map_nil]); first | done | rfl | (simp only [List.length_drop, List.length_take]; rfl)) ?_; (with_reducible refine (shuttlecockref03_Exp.calls (wrap64 (bt a0 a1)) true _ A42.out).mono ?_); rintro e w' ⟨rfl, ⟨nd, rfl⟩⟩; refine ⟨_, rfl, ?_⟩) | ((with_reducible refine gate_callee (f := 42) rfl ?_); refine goesL_ (some 71) rfl rfl Try.func42 (by kernel_rfl) rfl #[.string a0, .int .i64 t295] rfl (by (try simp only [List.map_toArray, List.map_cons, List.map_nil]); first | done | rfl | (simp only [List.length_drop, List.length_take]; rfl)) ?_; (with_reducible refine (shuttlecockref01_Take.calls kj19 a0 t295 t298 t299 t300 _ A44.out).mono ?_); rintro e w70 ⟨rfl, hb⟩; refine ⟨_, rfl, ?_⟩; have n0_ := Am (blk_below (g := gb289) (o := .cells #[.int .i64 0, .int .i64 0, .slice none 0 0, .string (⟨#[]⟩ : ByteArray)] 28 (0, 0)) (by (with_reducible repeat (first | refine bn ?_ _ | refine bd ?_ | refine ba ?_ _)); refine blk_far ?_ NB289_291.out _; (with_reducible repeat (first | refine bn ?_ _ | refine bd ?_ | refine ba ?_ _)); exact BK289.out) hb); have n1_ := Am (blk_below (g := gb290) (o := .cells #[.int .i64 0, .int .i64 0, .slice none 0 0, .string (⟨#[]⟩ : ByteArray)] 28 (0, 0)) (by (with_reducible repeat (first | refine bn ?_ _ | refine bd ?_ | refine ba ?_ _)); refine blk_far ?_ NB290_291.out _; (with_reducible repeat (first | refine bn ?_ _ | refine bd ?_ | refine ba ?_ _)); exact BK290.out) hb); have n2_ := Am (blk_below (g := gb291) (o := .cells #[.int .i64 (wrap64 (bt a0 a1)), .int .i64 t294, .slice none 0 0, .string (⟨#[]⟩ : ByteArray)] 28 (0, 0)) (by (with_reducible repeat (first | refine bn ?_ _ | refine bd ?_ | refine ba ?_ _)); refine blk_put (cs := #[.int .i64 (wrap64 (bt a0 a1)), .int .i64 0, .slice none 0 0, .string (⟨#[]⟩ : ByteArray)]) ?_ 1 _ rfl; (with_reducible repeat (first | refine bn ?_ _ | refine bd ?_ | refine ba ?_ _)); exact BK291.out) hb); have n3_ := Am (below_step (by repeat (first | (with_reducible first | exact HB.out | apply bl | apply pN | apply b1 | refine bs ?_ GE289.out | refine bs ?_ GE290.out | refine bs ?_ GE291.out) | exact HB.out | exact HBo.out)) hb); clear BK289; clear BK290; clear BK291; clear HB; have BK289 := n0_; have BK290 := n1_; have BK291 := n2_; have HB := n3_; clear n0_ n1_ n2_ n3_; (try clear hb); (try clear hb2); (try clear hk); (try clear hi); have hnb71 := NB290_289.out; have hnc71 := NB289_290.out; have hcz72_0 : w70.cell? ⟨gb290, 0, none⟩ = some (.int .i64 0) := (bc BK290.out 0).trans rfl; have hcz72_1 : w70.cell? ⟨gb290, 1, none⟩ = some (.int .i64 0) := (bc BK290.out 1).trans rfl; have hcz72_2 : w70.cell? ⟨gb290, 2, none⟩ = some (.slice none 0 0) := (bc BK290.out 2).trans rfl; have hcz72_3 : w70.cell? ⟨gb290, 3, none⟩ = some (.string (⟨#[]⟩ : ByteArray)) := (bc BK290.out 3).trans rfl; have hfz72_0 := bf BK290.out 0; have hfz72_1 := bf BK290.out 1; have hfz72_2 := bf BK290.out 2; have hfz72_3 := bf BK290.out 3; have hcz73_0 : w70.cell? ⟨gb289, 0, none⟩ = some (.int .i64 0) := (bc BK289.out 0).trans rfl; have hcz73_1 : w70.cell? ⟨gb289, 1, none⟩ = some (.int .i64 0) := (bc BK289.out 1).trans rfl; have hcz73_2 : w70.cell? ⟨gb289, 2, none⟩ = some (.slice none 0 0) := (bc BK289.out 2).trans rfl; have hcz73_3 : w70.cell? ⟨gb289, 3, none⟩ = some (.string (⟨#[]⟩ : ByteArray)) := (bc BK289.out 3).trans rfl; have hfz73_0 := bf BK289.out 0; have hfz73_1 := bf BK289.out 1; have hfz73_2 := bf BK289.out 2; have hfz73_3 := bf BK289.out 3))
             refine bodyPost_ret (results_ctt rfl _ _ gb289 28 #[.int .i64 0, .int .i64 0, .slice none 0 0, .string (⟨#[]⟩ : ByteArray)] (0, 0) _ rfl (by (with_reducible repeat (first | refine bn ?_ _ | refine bd ?_ | refine ba ?_ _)); refine blk_put (cs := #[.int .i64 0, .int .i64 0, .slice none 0 0, .string (⟨#[]⟩ : ByteArray)]) ?_ 3 _ rfl; (with_reducible repeat (first | refine bn ?_ _ | refine bd ?_ | refine ba ?_ _)); refine blk_put (cs := #[.int .i64 0, .int .i64 0, .slice none 0 0, .string (⟨#[]⟩ : ByteArray)]) ?_ 2 _ rfl; (with_reducible repeat (first | refine bn ?_ _ | refine bd ?_ | refine ba ?_ _)); refine blk_put (cs := #[.int .i64 0, .int .i64 0, .slice none 0 0, .string (⟨#[]⟩ : ByteArray)]) ?_ 1 _ rfl; (with_reducible repeat (first | refine bn ?_ _ | refine bd ?_ | refine ba ?_ _)); refine blk_put (cs := #[.int .i64 0, .int .i64 0, .slice none 0 0, .string (⟨#[]⟩ : ByteArray)]) ?_ 0 _ rfl; (with_reducible repeat (first | refine bn ?_ _ | refine bd ?_ | refine ba ?_ _)); exact BK289.out) Try.underlying28 rfl (by kernel_rfl)) rfl ?_
             exact ⟨_, by first | rfl | (simp [errW_none, errW_some] <;> rfl) | (simp [*, errW_none, errW_some] <;> rfl) | (simp [Aid.ne_nil, Aid.eq_nil, errW_none, errW_some]; done), by first | exact Kd.R_nil _ _ _ _ _ | exact Kd.N_nil _ _ _ _ _ | exact Kd.V_nil _ _ _ _ _ | exact Kd.Q_nil _ _ _ _ _ | exact Kd.S_nil _ _ _ _ _, by repeat (first | (with_reducible first | exact HB.out | apply bl | apply pN | apply b1 | refine bs ?_ GE289.out | refine bs ?_ GE290.out | refine bs ?_ GE291.out) | exact HB.out | exact HBo.out)⟩
           ·
            replace c43 := Bool.eq_false_iff.mpr c43
            subst c43
            have H1 : ((shuttlecockref03_Args.f kj19 (wrap64 (bt a0 a1))).bind fun t301 => (shuttlecockref04_Decode.l0 kj19 a0 t295 (t301.length : Int) 0 0 0 (⟨#[]⟩ : ByteArray) (wrap64 (bt a0 a1)) t294 ([] : List Int) (⟨#[]⟩ : ByteArray))) = some (r1, r2, r3, r4, r5, r6) := by rw [if_neg (show ¬ (false = true) by decide)] at H; exact H
            clear H
            have H := H1
            clear H1
            replace H := ob H
            obtain ⟨t301, A740, H⟩ := H
            replace H : (shuttlecockref04_Decode.l0 kj19 a0 t295 (t301.length : Int) 0 0 0 (⟨#[]⟩ : ByteArray) (wrap64 (bt a0 a1)) t294 ([] : List Int) (⟨#[]⟩ : ByteArray)) = some (r1, r2, r3, r4, r5, r6) := H
            have A74 := Am A740
            clear A740
            have H' := Am H
            clear H
            go_wp2_with (first | ((with_reducible refine gate_callee (f := 42) rfl ?_); refine goesL_ (some 55) rfl rfl Try.func42 (by kernel_rfl) rfl #[.string a0, .int .i64 (wrap64 (a1 + 1))] rfl (by (try simp only [List.map_toArray, List.map_cons, List.map_nil]); first | done | rfl | (simp only [List.length_drop, List.length_take]; rfl)) ?_; (with_reducible refine (shuttlecockref01_Take.calls kj19 a0 (wrap64 (a1 + 1)) t294 t295 t296 _ A40.out).mono ?_); rintro e w75 ⟨rfl, hb⟩; refine ⟨_, rfl, ?_⟩; have n0_ := Am (blk_below (g := gb289) (o := .cells #[.int .i64 0, .int .i64 0, .slice none 0 0, .string (⟨#[]⟩ : ByteArray)] 28 (0, 0)) (by (with_reducible repeat (first | refine bn ?_ _ | refine bd ?_ | refine ba ?_ _)); exact BK289.out) hb); have n1_ := Am (blk_below (g := gb290) (o := .cells #[.int .i64 0, .int .i64 0, .slice none 0 0, .string (⟨#[]⟩ : ByteArray)] 28 (0, 0)) (by (with_reducible repeat (first | refine bn ?_ _ | refine bd ?_ | refine ba ?_ _)); exact BK290.out) hb); have n2_ := Am (blk_below (g := gb291) (o := .cells #[.int .i64 (wrap64 (bt a0 a1)), .int .i64 0, .slice none 0 0, .string (⟨#[]⟩ : ByteArray)] 28 (0, 0)) (by (with_reducible repeat (first | refine bn ?_ _ | refine bd ?_ | refine ba ?_ _)); exact BK291.out) hb); have n3_ := Am (below_step (by repeat (first | (with_reducible first | exact HB.out | apply bl | apply pN | apply b1 | refine bs ?_ GE289.out | refine bs ?_ GE290.out | refine bs ?_ GE291.out) | exact HB.out | exact HBo.out)) hb); clear BK289; clear BK290; clear BK291; clear HB; have BK289 := n0_; have BK290 := n1_; have BK291 := n2_; have HB := n3_; clear n0_ n1_ n2_ n3_; (try clear hb); (try clear hb2); (try clear hk); (try clear hi); have hnb76 := NB291_289.out; have hnc76 := NB289_291.out; have hnb77 := NB291_290.out; have hnc77 := NB290_291.out; have hcz78_0 : w75.cell? ⟨gb291, 0, none⟩ = some (.int .i64 (wrap64 (bt a0 a1))) := (bc BK291.out 0).trans rfl; have hcz78_1 : w75.cell? ⟨gb291, 1, none⟩ = some (.int .i64 0) := (bc BK291.out 1).trans rfl; have hcz78_2 : w75.cell? ⟨gb291, 2, none⟩ = some (.slice none 0 0) := (bc BK291.out 2).trans rfl; have hcz78_3 : w75.cell? ⟨gb291, 3, none⟩ = some (.string (⟨#[]⟩ : ByteArray)) := (bc BK291.out 3).trans rfl; have hfz78_0 := bf BK291.out 0; have hfz78_1 := bf BK291.out 1; have hfz78_2 := bf BK291.out 2; have hfz78_3 := bf BK291.out 3) | ((with_reducible refine gate_callee (f := 35) rfl ?_); refine goesL_ (some 67) rfl rfl Try.func35 (by kernel_rfl) rfl #[.int .i64 (wrap64 (bt a0 a1))] rfl (by (try simp only [List.map_toArray, List.map_cons, List.map_nil]); first | done | rfl | (simp only [List.length_drop, List.length_take]; rfl)) ?_; (with_reducible refine (shuttlecockref03_Exp.calls (wrap64 (bt a0 a1)) false _ A42.out).mono ?_); rintro e w' ⟨rfl, ⟨nd, rfl⟩⟩; refine ⟨_, rfl, ?_⟩) | ((with_reducible refine gate_callee (f := 37) rfl ?_); refine goesL_ (some 99) rfl rfl Try.func37 (by kernel_rfl) rfl #[.int .i64 (wrap64 (bt a0 a1))] rfl (by (try simp only [List.map_toArray, List.map_cons, List.map_nil]); first | done | rfl | (simp only [List.length_drop, List.length_take]; rfl)) ?_; (with_reducible refine (shuttlecockref03_Args.calls kj19 (wrap64 (bt a0 a1)) t301 _ A74.out).mono ?_); rintro e w79 ⟨v302, rfl, ho0, hb⟩; refine ⟨_, rfl, ?_⟩; have n0_ := Am (Kd.R_lower ho0 (below_size (by repeat (first | (with_reducible first | exact HB.out | apply bl | apply pN | apply b1 | refine bs ?_ GE289.out | refine bs ?_ GE290.out | refine bs ?_ GE291.out) | exact HB.out | exact HBo.out)))); have n1_ := Am (blk_below (g := gb289) (o := .cells #[.int .i64 0, .int .i64 0, .slice none 0 0, .string (⟨#[]⟩ : ByteArray)] 28 (0, 0)) (by (with_reducible repeat (first | refine bn ?_ _ | refine bd ?_ | refine ba ?_ _)); refine blk_far ?_ NB289_291.out _; (with_reducible repeat (first | refine bn ?_ _ | refine bd ?_ | refine ba ?_ _)); exact BK289.out) hb); have n2_ := Am (blk_below (g := gb290) (o := .cells #[.int .i64 0, .int .i64 0, .slice none 0 0, .string (⟨#[]⟩ : ByteArray)] 28 (0, 0)) (by (with_reducible repeat (first | refine bn ?_ _ | refine bd ?_ | refine ba ?_ _)); refine blk_far ?_ NB290_291.out _; (with_reducible repeat (first | refine bn ?_ _ | refine bd ?_ | refine ba ?_ _)); exact BK290.out) hb); have n3_ := Am (blk_below (g := gb291) (o := .cells #[.int .i64 (wrap64 (bt a0 a1)), .int .i64 t294, .slice none 0 0, .string (⟨#[]⟩ : ByteArray)] 28 (0, 0)) (by (with_reducible repeat (first | refine bn ?_ _ | refine bd ?_ | refine ba ?_ _)); refine blk_put (cs := #[.int .i64 (wrap64 (bt a0 a1)), .int .i64 0, .slice none 0 0, .string (⟨#[]⟩ : ByteArray)]) ?_ 1 _ rfl; (with_reducible repeat (first | refine bn ?_ _ | refine bd ?_ | refine ba ?_ _)); exact BK291.out) hb); have n4_ := Am (below_step (by repeat (first | (with_reducible first | exact HB.out | apply bl | apply pN | apply b1 | refine bs ?_ GE289.out | refine bs ?_ GE290.out | refine bs ?_ GE291.out) | exact HB.out | exact HBo.out)) hb); clear BK289; clear BK290; clear BK291; clear HB; have HO303 := n0_; have BK289 := n1_; have BK290 := n2_; have BK291 := n3_; have HB := n4_; clear n0_ n1_ n2_ n3_ n4_; (try clear hb); (try clear hb2); (try clear hk); (try clear hi); (try clear ho0); obtain ⟨Ao80, co80, eo80⟩ := Kd.R_slice HO303.out; subst eo80))
            go_loopg [10, 16] kj19 (fun kq v10 v16 w' => ∃ (x10_3 : Int) (x16_3 : Int) (x290000_3 : Int) (x290001_3 : Int) (x290003_3 : ByteArray) (x292002_3 : List Int) (u292002 : Value), v10 = .int .i64 x10_3 ∧ v16 = .int .i64 x16_3 ∧ Aside0 (shuttlecockref04_Decode.l0 kq a0 x10_3 (t301.length : Int) x16_3 0 0 (⟨#[]⟩ : ByteArray) (wrap64 (bt a0 a1)) t294 x292002_3 (⟨#[]⟩ : ByteArray) = some (r1, r2, r3, r4, r5, r6)) ∧ Aside0 (kq ≤ kj19) ∧ Aside0 (Kd.R (Kd.int .i64) 3 w' w.heap.size (fun _ => True) u292002 x292002_3) ∧ Aside0 (w'.heap[gb289]? = some (.cells #[.int .i64 x290000_3, .int .i64 x290001_3, (.slice none 0 0), .string x290003_3] 28 (0, 0))) ∧ Aside0 (w'.heap[gb290]? = some (.cells #[.int .i64 0, .int .i64 0, (.slice none 0 0), .string (⟨#[]⟩ : ByteArray)] 28 (0, 0))) ∧ Aside0 (w'.heap[gb291]? = some (.cells #[.int .i64 (wrap64 (bt a0 a1)), .int .i64 t294, u292002, .string (⟨#[]⟩ : ByteArray)] 28 (0, 0))) ∧ Aside0 (Below w.heap.size w w'))
            case atStart => exact ⟨(t295), (0), (0), (0), ((⟨#[]⟩ : ByteArray)), (([] : List Int)), (.slice none 0 0), (by first | rfl | (simp; done) | (simp [*]; done)), (by first | rfl | (simp; done) | (simp [*]; done)), H', ⟨Nat.le_refl _⟩, ⟨by first | exact Kd.R_nil _ _ _ _ _ | exact Kd.N_nil _ _ _ _ _ | exact Kd.V_nil _ _ _ _ _ | exact Kd.Q_nil _ _ _ _ _ | exact Kd.S_nil _ _ _ _ _⟩, ⟨by (with_reducible repeat (first | refine bn ?_ _ | refine bd ?_ | refine ba ?_ _)); exact BK289.out⟩, ⟨by (with_reducible repeat (first | refine bn ?_ _ | refine bd ?_ | refine ba ?_ _)); exact BK290.out⟩, ⟨by (with_reducible repeat (first | refine bn ?_ _ | refine bd ?_ | refine ba ?_ _)); exact BK291.out⟩, ⟨by repeat (first | (with_reducible first | exact HB.out | apply bl | apply pN | apply b1 | refine bs ?_ GE289.out | refine bs ?_ GE290.out | refine bs ?_ GE291.out) | exact HB.out | exact HBo.out)⟩⟩
            case round =>
             clear H'
             try clear c1
             try clear p1
             try clear q1
             try clear hx1
             try clear c2
             try clear p2
             try clear c3
             try clear c4
             try clear c5
             try clear c6
             try clear p6
             try clear c7
             try clear c8
             try clear c8b0
             try clear c9
             try clear c10
             try clear c13
             try clear c13b0
             try clear c13b1
             try clear c14
             try clear c17
             try clear c17b0
             try clear c18
             try clear c18b0
             try clear p19
             try clear q19
             try clear hx19
             try clear c22
             try clear c23
             try clear c25
             try clear c26
             try clear c27
             try clear c28
             try clear c31
             try clear c32
             try clear c34
             try clear c35
             try clear c36
             try clear c37
             try clear c38
             try clear c41
             try clear c41b0
             try clear c41b1
             try clear c42
             try clear c43
             try clear c45
             try clear c45b0
             try clear c45b1
             try clear c46
             try clear c46b0
             try clear c48
             try clear c49
             try clear c52
             try clear c55
             try clear c55b0
             try clear c55b1
             try clear c56
             try clear c56b0
             try clear c56b1
             try clear c57
             try clear c57b0
             try clear c57b1
             try clear c59
             try clear c60
             try clear c64
             try clear p64
             try clear c67
             try clear c68
             try clear c71
             try clear c76
             try clear c77
             try clear hcz11_0
             try clear hcz11_1
             try clear hcz11_2
             try clear hcz11_3
             try clear hcz12_0
             try clear hcz12_1
             try clear hcz12_2
             try clear hcz12_3
             try clear hcz15_0
             try clear hcz15_1
             try clear hcz15_2
             try clear hcz15_3
             try clear hcz16_0
             try clear hcz16_1
             try clear hcz16_2
             try clear hcz16_3
             try clear hcz24_0
             try clear hcz24_1
             try clear hcz24_2
             try clear hcz24_3
             try clear hcz29_0
             try clear hcz29_1
             try clear hcz29_2
             try clear hcz29_3
             try clear hcz33_0
             try clear hcz33_1
             try clear hcz33_2
             try clear hcz33_3
             try clear hcz37_0
             try clear hcz37_1
             try clear hcz37_2
             try clear hcz37_3
             try clear hcz39_0
             try clear hcz39_1
             try clear hcz39_2
             try clear hcz39_3
             try clear hcz50_0
             try clear hcz50_1
             try clear hcz50_2
             try clear hcz50_3
             try clear hcz53_0
             try clear hcz53_1
             try clear hcz53_2
             try clear hcz53_3
             try clear hcz54_0
             try clear hcz54_1
             try clear hcz54_2
             try clear hcz54_3
             try clear hcz61_0
             try clear hcz61_1
             try clear hcz61_2
             try clear hcz61_3
             try clear hcz63_0
             try clear hcz63_1
             try clear hcz63_2
             try clear hcz63_3
             try clear hcz65_0
             try clear hcz65_1
             try clear hcz65_2
             try clear hcz65_3
             try clear hcz69_0
             try clear hcz69_1
             try clear hcz69_2
             try clear hcz69_3
             try clear hcz72_0
             try clear hcz72_1
             try clear hcz72_2
             try clear hcz72_3
             try clear hcz73_0
             try clear hcz73_1
             try clear hcz73_2
             try clear hcz73_3
             try clear hcz78_0
             try clear hcz78_1
             try clear hcz78_2
             try clear hcz78_3
             try clear hcz7_0
             try clear hcz7_1
             try clear hcz7_2
             try clear hcz7_3
             try clear hfz11_0
             try clear hfz11_1
             try clear hfz11_2
             try clear hfz11_3
             try clear hfz12_0
             try clear hfz12_1
             try clear hfz12_2
             try clear hfz12_3
             try clear hfz15_0
             try clear hfz15_1
             try clear hfz15_2
             try clear hfz15_3
             try clear hfz16_0
             try clear hfz16_1
             try clear hfz16_2
             try clear hfz16_3
             try clear hfz24_0
             try clear hfz24_1
             try clear hfz24_2
             try clear hfz24_3
             try clear hfz29_0
             try clear hfz29_1
             try clear hfz29_2
             try clear hfz29_3
             try clear hfz33_0
             try clear hfz33_1
             try clear hfz33_2
             try clear hfz33_3
             try clear hfz37_0
             try clear hfz37_1
             try clear hfz37_2
             try clear hfz37_3
             try clear hfz39_0
             try clear hfz39_1
             try clear hfz39_2
             try clear hfz39_3
             try clear hfz50_0
             try clear hfz50_1
             try clear hfz50_2
             try clear hfz50_3
             try clear hfz53_0
             try clear hfz53_1
             try clear hfz53_2
             try clear hfz53_3
             try clear hfz54_0
             try clear hfz54_1
             try clear hfz54_2
             try clear hfz54_3
             try clear hfz61_0
             try clear hfz61_1
             try clear hfz61_2
             try clear hfz61_3
             try clear hfz63_0
             try clear hfz63_1
             try clear hfz63_2
             try clear hfz63_3
             try clear hfz65_0
             try clear hfz65_1
             try clear hfz65_2
             try clear hfz65_3
             try clear hfz69_0
             try clear hfz69_1
             try clear hfz69_2
             try clear hfz69_3
             try clear hfz72_0
             try clear hfz72_1
             try clear hfz72_2
             try clear hfz72_3
             try clear hfz73_0
             try clear hfz73_1
             try clear hfz73_2
             try clear hfz73_3
             try clear hfz78_0
             try clear hfz78_1
             try clear hfz78_2
             try clear hfz78_3
             try clear hfz7_0
             try clear hfz7_1
             try clear hfz7_2
             try clear hfz7_3
             try clear p1
             try clear p19
             try clear p2
             try clear p6
             try clear q1
             try clear q19
             obtain ⟨x10_3, x16_3, x290000_3, x290001_3, x290003_3, x292002_3, u292002, rfl, rfl, HA, HK3, HO_292002, BK289, BK290, BK291, HB⟩ := hrel
             cases gk with
             | zero => exact absurd HA.out (by simp [shuttlecockref04_Decode.l0])
             | succ k3 =>
              have H := HA.out
              clear HA
              simp only [shuttlecockref04_Decode.l0] at H
              by_cases c81 : x16_3 < (t301.length : Int)
              ·
               rw [if_pos c81] at H
               have c81b0 : decide (x16_3 < (t301.length : Int)) = true := decide_eq_true c81
               clear c81
               replace H := ob H
               obtain ⟨⟨t304, t305, t306⟩, A820, H⟩ := H
               replace H : (if t306 = 0 then (if x292002_3.length < 17592186044416 then (shuttlecockref04_Decode.l0 k3 a0 t305 (t301.length : Int) (wrap64 (x16_3 + 1)) 0 0 (⟨#[]⟩ : ByteArray) (wrap64 (bt a0 a1)) t294 (x292002_3 ++ [t304]) (⟨#[]⟩ : ByteArray)) else (none)) else (some (0, 0, ([] : List Int), (⟨#[]⟩ : ByteArray), 0, t306))) = some (r1, r2, r3, r4, r5, r6) := H
               have A82 := Am A820
               clear A820
               by_cases c83 : t306 = 0
               ·
                rw [if_pos c83] at H
                have c83b0 : (t306 == 0) = true := beq_iff_eq.mpr c83
                have c83b1 : (t306 != 0) = false := bne_eq_false_iff_eq.mpr c83
                clear c83
                by_cases c84 : x292002_3.length < 17592186044416
                ·
                 rw [if_pos c84] at H
                 have LMc84 := Am c84
                 clear c84
                 obtain ⟨y307, hy307⟩ : ∃ y_ : List Int, y_ = (x292002_3 ++ [t304]) := ⟨_, rfl⟩
                 replace H : (shuttlecockref04_Decode.l0 k3 a0 t305 (t301.length : Int) (wrap64 (x16_3 + 1)) 0 0 (⟨#[]⟩ : ByteArray) (wrap64 (bt a0 a1)) t294 y307 (⟨#[]⟩ : ByteArray)) = some (r1, r2, r3, r4, r5, r6) := by first | (rw [hy307]; with_reducible exact H) | (have H2_ := (Option.bind_some _ _).symm.trans H; rw [hy307]; with_reducible exact H2_) | (have H2_ := (Option.bind_some _ _).symm.trans H; with_reducible exact H2_) | with_reducible exact H | (rw [hy307]; exact H) | exact H
                 have Ny307 := Am hy307
                 clear hy307
                 have H' := Am H
                 clear H
                 go_wp2_with (first | ((with_reducible refine gate_callee (f := 42) rfl ?_); refine goesL_ (some 109) rfl rfl Try.func42 (by kernel_rfl) rfl #[.string a0, .int .i64 x10_3] rfl (by (try simp only [List.map_toArray, List.map_cons, List.map_nil]); first | done | rfl | (simp only [List.length_drop, List.length_take]; rfl)) ?_; (with_reducible refine (shuttlecockref01_Take.calls k3 a0 x10_3 t304 t305 t306 _ A82.out).mono ?_); rintro e w85 ⟨rfl, hb⟩; refine ⟨_, rfl, ?_⟩; have n0_ := Am (Kd.R_below (by (with_reducible repeat (first | apply Kd.R_alloc | apply Kd.R_drewN | apply Kd.R_drew)); exact HO_292002.out) hb); have n1_ := Am (blk_below (g := gb289) (o := .cells #[.int .i64 x290000_3, .int .i64 x290001_3, .slice none 0 0, .string x290003_3] 28 (0, 0)) (by (with_reducible repeat (first | refine bn ?_ _ | refine bd ?_ | refine ba ?_ _)); exact BK289.out) hb); have n2_ := Am (blk_below (g := gb290) (o := .cells #[.int .i64 0, .int .i64 0, .slice none 0 0, .string (⟨#[]⟩ : ByteArray)] 28 (0, 0)) (by (with_reducible repeat (first | refine bn ?_ _ | refine bd ?_ | refine ba ?_ _)); exact BK290.out) hb); have n3_ := Am (blk_below (g := gb291) (o := .cells #[.int .i64 (wrap64 (bt a0 a1)), .int .i64 t294, u292002, .string (⟨#[]⟩ : ByteArray)] 28 (0, 0)) (by (with_reducible repeat (first | refine bn ?_ _ | refine bd ?_ | refine ba ?_ _)); exact BK291.out) hb); have n4_ := Am (below_step (by repeat (first | (with_reducible first | exact HB.out | apply bl | apply pN | apply b1 | refine bs ?_ GE289.out | refine bs ?_ GE290.out | refine bs ?_ GE291.out) | exact HB.out | exact HBo.out)) hb); clear HO_292002; clear BK289; clear BK290; clear BK291; clear HB; have HO_292002 := n0_; have BK289 := n1_; have BK290 := n2_; have BK291 := n3_; have HB := n4_; clear n0_ n1_ n2_ n3_ n4_; (try clear hb); (try clear hb2); (try clear hk); (try clear hi); have hnb86 := NB291_289.out; have hnc86 := NB289_291.out; have hnb87 := NB291_290.out; have hnc87 := NB290_291.out; have hcz88_0 : w85.cell? ⟨gb291, 0, none⟩ = some (.int .i64 (wrap64 (bt a0 a1))) := (bc BK291.out 0).trans rfl; have hcz88_1 : w85.cell? ⟨gb291, 1, none⟩ = some (.int .i64 t294) := (bc BK291.out 1).trans rfl; have hcz88_2 : w85.cell? ⟨gb291, 2, none⟩ = some (u292002) := (bc BK291.out 2).trans rfl; have hcz88_3 : w85.cell? ⟨gb291, 3, none⟩ = some (.string (⟨#[]⟩ : ByteArray)) := (bc BK291.out 3).trans rfl; have hfz88_0 := bf BK291.out 0; have hfz88_1 := bf BK291.out 1; have hfz88_2 := bf BK291.out 2; have hfz88_3 := bf BK291.out 3) | ((with_reducible refine gate_builtin (b := .append) (xs := #[.tmp 118, .tmp 120]) rfl ?_); (try (refine gate_guard (by rfl) ?_; dsimp only)); at_builtin; refine Kd.R_append (Kd.int .i64) (w0 := w) w.heap.size rfl (.tmp 118) (.tmp 120) 26 3 (.int .i64 0) 8 rfl Try.underlying26 info3 rfl (by decide) (by omega) u292002 x292002_3 t304 [.int .i64 t304] (fun _ => True) (fun _ => False) rfl rfl ?aP (fun _ hk => hk.elim) ?aF ?aO ?aB ?aS ?aL ?_; (case aP => exact rfl); (case aB => exact (by repeat (first | (with_reducible first | exact HB.out | apply bl | apply pN | apply b1 | refine bs ?_ GE289.out | refine bs ?_ GE290.out | refine bs ?_ GE291.out) | exact HB.out | exact HBo.out))); (case aF => exact (fun _ _ => trivial)); (case aO => exact (by (with_reducible repeat (first | apply Kd.R_alloc | apply Kd.R_drewN | apply Kd.R_drew)); exact HO_292002.out)); (case aS => exact (below_size (by repeat (first | (with_reducible first | exact HB.out | apply bl | apply pN | apply b1 | refine bs ?_ GE289.out | refine bs ?_ GE290.out | refine bs ?_ GE291.out) | exact HB.out | exact HBo.out)))); (case aL => have := LMc84.out; omega); intro v308 w89 ho hb hg hat; rw [← Ny307.out] at ho; have n0_ := Am (blk_grown (g := gb289) (o := .cells #[.int .i64 x290000_3, .int .i64 x290001_3, .slice none 0 0, .string x290003_3] 28 (0, 0)) (by (with_reducible repeat (first | refine bn ?_ _ | refine bd ?_ | refine ba ?_ _)); exact BK289.out) hg (Kd.R_ne HO_292002.out BK289.out (by decide))); have n1_ := Am (blk_grown (g := gb290) (o := .cells #[.int .i64 0, .int .i64 0, .slice none 0 0, .string (⟨#[]⟩ : ByteArray)] 28 (0, 0)) (by (with_reducible repeat (first | refine bn ?_ _ | refine bd ?_ | refine ba ?_ _)); exact BK290.out) hg (Kd.R_ne HO_292002.out BK290.out (by decide))); have n2_ := Am (blk_grown (g := gb291) (o := .cells #[.int .i64 (wrap64 (bt a0 a1)), .int .i64 t294, u292002, .string (⟨#[]⟩ : ByteArray)] 28 (0, 0)) (by (with_reducible repeat (first | refine bn ?_ _ | refine bd ?_ | refine ba ?_ _)); exact BK291.out) hg (Kd.R_ne HO_292002.out BK291.out (by decide))); have n3_ := Am (hb); have n4_ := Am (ho); clear BK289; clear BK290; clear BK291; clear HB; clear HO_292002; have BK289 := n0_; have BK290 := n1_; have BK291 := n2_; have HB := n3_; have HO309 := n4_; clear n0_ n1_ n2_ n3_ n4_; clear ho hb hg hat; obtain ⟨Ao90, co90, eo90⟩ := Kd.R_slice HO309.out; subst eo90; have hcz91_0 : w89.cell? ⟨gb291, 0, none⟩ = some (.int .i64 (wrap64 (bt a0 a1))) := (bc BK291.out 0).trans rfl; have hcz91_1 : w89.cell? ⟨gb291, 1, none⟩ = some (.int .i64 t294) := (bc BK291.out 1).trans rfl; have hcz91_2 : w89.cell? ⟨gb291, 2, none⟩ = some (u292002) := (bc BK291.out 2).trans rfl; have hcz91_3 : w89.cell? ⟨gb291, 3, none⟩ = some (.string (⟨#[]⟩ : ByteArray)) := (bc BK291.out 3).trans rfl; have hfz91_0 := bf BK291.out 0; have hfz91_1 := bf BK291.out 1; have hfz91_2 := bf BK291.out 2; have hfz91_3 := bf BK291.out 3))
                 go_roundg k3
                 case measure => have := HJ2.out; have := HJ19.out; have := HK3.out; omega
                 case rel => exact ⟨(t305), (wrap64 (x16_3 + 1)), (x290000_3), (x290001_3), (x290003_3), (y307), (.slice Ao90 y307.length co90), (by first | rfl | (simp; done) | (simp [*]; done)), (by first | rfl | (simp; done) | (simp [*]; done)), H', ⟨by have := HJ2.out; have := HJ19.out; have := HK3.out; omega⟩, ⟨by (with_reducible repeat (first | apply Kd.R_alloc | apply Kd.R_drewN | apply Kd.R_drew)); exact Kd.R_mono (Kd.R_far (p := ⟨gb291, 2, none⟩) (Kd.R_types HO309.out BK291.out (by decide)) (fun _ hk => hk.2) (.slice Ao90 y307.length co90)) (fun _ hk => trivial)⟩, ⟨by (with_reducible repeat (first | refine bn ?_ _ | refine bd ?_ | refine ba ?_ _)); refine blk_far ?_ NB289_291.out _; (with_reducible repeat (first | refine bn ?_ _ | refine bd ?_ | refine ba ?_ _)); exact BK289.out⟩, ⟨by (with_reducible repeat (first | refine bn ?_ _ | refine bd ?_ | refine ba ?_ _)); refine blk_far ?_ NB290_291.out _; (with_reducible repeat (first | refine bn ?_ _ | refine bd ?_ | refine ba ?_ _)); exact BK290.out⟩, ⟨by (with_reducible repeat (first | refine bn ?_ _ | refine bd ?_ | refine ba ?_ _)); refine blk_put (cs := #[.int .i64 (wrap64 (bt a0 a1)), .int .i64 t294, u292002, .string (⟨#[]⟩ : ByteArray)]) ?_ 2 _ rfl; (with_reducible repeat (first | refine bn ?_ _ | refine bd ?_ | refine ba ?_ _)); exact BK291.out⟩, ⟨by repeat (first | (with_reducible first | exact HB.out | apply bl | apply pN | apply b1 | refine bs ?_ GE289.out | refine bs ?_ GE290.out | refine bs ?_ GE291.out) | exact HB.out | exact HBo.out)⟩⟩
                ·
                 rw [if_neg c84] at H
                 exact absurd H (by simp)
               ·
                rw [if_neg c83] at H
                have c83b0 : (t306 == 0) = false := beq_eq_false_iff_ne.mpr c83
                have c83b1 : (t306 != 0) = true := bne_iff_ne.mpr c83
                simp only [Option.some.injEq, Prod.mk.injEq] at H
                obtain ⟨rfl, rfl, rfl, rfl, rfl, rfl⟩ := H
                go_wp2_with (first | ((with_reducible refine gate_callee (f := 42) rfl ?_); refine goesL_ (some 109) rfl rfl Try.func42 (by kernel_rfl) rfl #[.string a0, .int .i64 x10_3] rfl (by (try simp only [List.map_toArray, List.map_cons, List.map_nil]); first | done | rfl | (simp only [List.length_drop, List.length_take]; rfl)) ?_; (with_reducible refine (shuttlecockref01_Take.calls k3 a0 x10_3 t304 t305 t306 _ A82.out).mono ?_); rintro e w92 ⟨rfl, hb⟩; refine ⟨_, rfl, ?_⟩; have n0_ := Am (Kd.R_below (by (with_reducible repeat (first | apply Kd.R_alloc | apply Kd.R_drewN | apply Kd.R_drew)); exact HO_292002.out) hb); have n1_ := Am (blk_below (g := gb289) (o := .cells #[.int .i64 x290000_3, .int .i64 x290001_3, .slice none 0 0, .string x290003_3] 28 (0, 0)) (by (with_reducible repeat (first | refine bn ?_ _ | refine bd ?_ | refine ba ?_ _)); exact BK289.out) hb); have n2_ := Am (blk_below (g := gb290) (o := .cells #[.int .i64 0, .int .i64 0, .slice none 0 0, .string (⟨#[]⟩ : ByteArray)] 28 (0, 0)) (by (with_reducible repeat (first | refine bn ?_ _ | refine bd ?_ | refine ba ?_ _)); exact BK290.out) hb); have n3_ := Am (blk_below (g := gb291) (o := .cells #[.int .i64 (wrap64 (bt a0 a1)), .int .i64 t294, u292002, .string (⟨#[]⟩ : ByteArray)] 28 (0, 0)) (by (with_reducible repeat (first | refine bn ?_ _ | refine bd ?_ | refine ba ?_ _)); exact BK291.out) hb); have n4_ := Am (below_step (by repeat (first | (with_reducible first | exact HB.out | apply bl | apply pN | apply b1 | refine bs ?_ GE289.out | refine bs ?_ GE290.out | refine bs ?_ GE291.out) | exact HB.out | exact HBo.out)) hb); clear HO_292002; clear BK289; clear BK290; clear BK291; clear HB; have HO_292002 := n0_; have BK289 := n1_; have BK290 := n2_; have BK291 := n3_; have HB := n4_; clear n0_ n1_ n2_ n3_ n4_; (try clear hb); (try clear hb2); (try clear hk); (try clear hi); have hnb93 := NB290_289.out; have hnc93 := NB289_290.out; have hnb94 := NB290_291.out; have hnc94 := NB291_290.out; have hcz95_0 : w92.cell? ⟨gb290, 0, none⟩ = some (.int .i64 0) := (bc BK290.out 0).trans rfl; have hcz95_1 : w92.cell? ⟨gb290, 1, none⟩ = some (.int .i64 0) := (bc BK290.out 1).trans rfl; have hcz95_2 : w92.cell? ⟨gb290, 2, none⟩ = some (.slice none 0 0) := (bc BK290.out 2).trans rfl; have hcz95_3 : w92.cell? ⟨gb290, 3, none⟩ = some (.string (⟨#[]⟩ : ByteArray)) := (bc BK290.out 3).trans rfl; have hfz95_0 := bf BK290.out 0; have hfz95_1 := bf BK290.out 1; have hfz95_2 := bf BK290.out 2; have hfz95_3 := bf BK290.out 3; have hnb96 := NB289_291.out; have hnc96 := NB291_289.out; have hcz97_0 : w92.cell? ⟨gb289, 0, none⟩ = some (.int .i64 x290000_3) := (bc BK289.out 0).trans rfl; have hcz97_1 : w92.cell? ⟨gb289, 1, none⟩ = some (.int .i64 x290001_3) := (bc BK289.out 1).trans rfl; have hcz97_2 : w92.cell? ⟨gb289, 2, none⟩ = some (.slice none 0 0) := (bc BK289.out 2).trans rfl; have hcz97_3 : w92.cell? ⟨gb289, 3, none⟩ = some (.string x290003_3) := (bc BK289.out 3).trans rfl; have hfz97_0 := bf BK289.out 0; have hfz97_1 := bf BK289.out 1; have hfz97_2 := bf BK289.out 2; have hfz97_3 := bf BK289.out 3))
                refine bodyPost_ret (results_ctt rfl _ _ gb289 28 #[.int .i64 0, .int .i64 0, .slice none 0 0, .string (⟨#[]⟩ : ByteArray)] (0, 0) _ rfl (by (with_reducible repeat (first | refine bn ?_ _ | refine bd ?_ | refine ba ?_ _)); refine blk_put (cs := #[.int .i64 0, .int .i64 0, .slice none 0 0, .string x290003_3]) ?_ 3 _ rfl; (with_reducible repeat (first | refine bn ?_ _ | refine bd ?_ | refine ba ?_ _)); refine blk_put (cs := #[.int .i64 0, .int .i64 0, .slice none 0 0, .string x290003_3]) ?_ 2 _ rfl; (with_reducible repeat (first | refine bn ?_ _ | refine bd ?_ | refine ba ?_ _)); refine blk_put (cs := #[.int .i64 0, .int .i64 x290001_3, .slice none 0 0, .string x290003_3]) ?_ 1 _ rfl; (with_reducible repeat (first | refine bn ?_ _ | refine bd ?_ | refine ba ?_ _)); refine blk_put (cs := #[.int .i64 x290000_3, .int .i64 x290001_3, .slice none 0 0, .string x290003_3]) ?_ 0 _ rfl; (with_reducible repeat (first | refine bn ?_ _ | refine bd ?_ | refine ba ?_ _)); exact BK289.out) Try.underlying28 rfl (by kernel_rfl)) rfl ?_
                exact ⟨_, by first | rfl | (simp [errW_none, errW_some] <;> rfl) | (simp [*, errW_none, errW_some] <;> rfl) | (simp [Aid.ne_nil, Aid.eq_nil, errW_none, errW_some]; done), by first | exact Kd.R_nil _ _ _ _ _ | exact Kd.N_nil _ _ _ _ _ | exact Kd.V_nil _ _ _ _ _ | exact Kd.Q_nil _ _ _ _ _ | exact Kd.S_nil _ _ _ _ _, by repeat (first | (with_reducible first | exact HB.out | apply bl | apply pN | apply b1 | refine bs ?_ GE289.out | refine bs ?_ GE290.out | refine bs ?_ GE291.out) | exact HB.out | exact HBo.out)⟩
              ·
               rw [if_neg c81] at H
               have c81b0 : decide (x16_3 < (t301.length : Int)) = false := decide_eq_false c81
               clear c81
               simp only [Option.some.injEq, Prod.mk.injEq] at H
               obtain ⟨rfl, rfl, rfl, rfl, rfl, rfl⟩ := H
               have hnb98 := NB291_289.out
               have hnc98 := NB289_291.out
               have hnb99 := NB291_290.out
               have hnc99 := NB290_291.out
               have hcz100_0 : wr.cell? ⟨gb291, 0, none⟩ = some (.int .i64 (wrap64 (bt a0 a1))) := (bc BK291.out 0).trans rfl
               have hcz100_1 : wr.cell? ⟨gb291, 1, none⟩ = some (.int .i64 t294) := (bc BK291.out 1).trans rfl
               have hcz100_2 : wr.cell? ⟨gb291, 2, none⟩ = some (u292002) := (bc BK291.out 2).trans rfl
               have hcz100_3 : wr.cell? ⟨gb291, 3, none⟩ = some (.string (⟨#[]⟩ : ByteArray)) := (bc BK291.out 3).trans rfl
               have hfz100_0 := bf BK291.out 0
               have hfz100_1 := bf BK291.out 1
               have hfz100_2 := bf BK291.out 2
               have hfz100_3 := bf BK291.out 3
               have hnb101 := NB289_290.out
               have hnc101 := NB290_289.out
               have hcz102_0 : wr.cell? ⟨gb289, 0, none⟩ = some (.int .i64 x290000_3) := (bc BK289.out 0).trans rfl
               have hcz102_1 : wr.cell? ⟨gb289, 1, none⟩ = some (.int .i64 x290001_3) := (bc BK289.out 1).trans rfl
               have hcz102_2 : wr.cell? ⟨gb289, 2, none⟩ = some (.slice none 0 0) := (bc BK289.out 2).trans rfl
               have hcz102_3 : wr.cell? ⟨gb289, 3, none⟩ = some (.string x290003_3) := (bc BK289.out 3).trans rfl
               have hfz102_0 := bf BK289.out 0
               have hfz102_1 := bf BK289.out 1
               have hfz102_2 := bf BK289.out 2
               have hfz102_3 := bf BK289.out 3
               obtain ⟨Ao103, co103, eo103⟩ := Kd.R_slice HO_292002.out
               subst eo103
               go_wp2
               refine bodyPost_ret (results_ctt rfl _ _ gb289 28 #[.int .i64 (wrap64 (bt a0 a1)), .int .i64 t294, .slice Ao103 x292002_3.length co103, .string (⟨#[]⟩ : ByteArray)] (0, 0) _ rfl (by (with_reducible repeat (first | refine bn ?_ _ | refine bd ?_ | refine ba ?_ _)); refine blk_put (cs := #[.int .i64 (wrap64 (bt a0 a1)), .int .i64 t294, .slice Ao103 x292002_3.length co103, .string x290003_3]) ?_ 3 _ rfl; (with_reducible repeat (first | refine bn ?_ _ | refine bd ?_ | refine ba ?_ _)); refine blk_put (cs := #[.int .i64 (wrap64 (bt a0 a1)), .int .i64 t294, .slice none 0 0, .string x290003_3]) ?_ 2 _ rfl; (with_reducible repeat (first | refine bn ?_ _ | refine bd ?_ | refine ba ?_ _)); refine blk_put (cs := #[.int .i64 (wrap64 (bt a0 a1)), .int .i64 x290001_3, .slice none 0 0, .string x290003_3]) ?_ 1 _ rfl; (with_reducible repeat (first | refine bn ?_ _ | refine bd ?_ | refine ba ?_ _)); refine blk_put (cs := #[.int .i64 x290000_3, .int .i64 x290001_3, .slice none 0 0, .string x290003_3]) ?_ 0 _ rfl; (with_reducible repeat (first | refine bn ?_ _ | refine bd ?_ | refine ba ?_ _)); exact BK289.out) Try.underlying28 rfl (by kernel_rfl)) rfl ?_
               exact ⟨_, by first | rfl | (simp [errW_none, errW_some] <;> rfl) | (simp [*, errW_none, errW_some] <;> rfl) | (simp [Aid.ne_nil, Aid.eq_nil, errW_none, errW_some]; done), by (with_reducible repeat (first | apply Kd.R_alloc | apply Kd.R_drewN | apply Kd.R_drew)); exact Kd.R_mono (Kd.R_far (p := ⟨gb289, 3, none⟩) (Kd.R_far (p := ⟨gb289, 2, none⟩) (Kd.R_far (p := ⟨gb289, 1, none⟩) (Kd.R_far (p := ⟨gb289, 0, none⟩) (Kd.R_types HO_292002.out BK289.out (by decide)) (fun _ hk => hk.2) (.int .i64 (wrap64 (bt a0 a1)))) (fun _ hk => hk.2) (.int .i64 t294)) (fun _ hk => hk.2) (.slice Ao103 x292002_3.length co103)) (fun _ hk => hk.2) (.string (⟨#[]⟩ : ByteArray))) (fun _ hk => trivial), by repeat (first | (with_reducible first | exact HB.out | apply bl | apply pN | apply b1 | refine bs ?_ GE289.out | refine bs ?_ GE290.out | refine bs ?_ GE291.out) | exact HB.out | exact HBo.out)⟩
          ·
           rw [if_neg c41] at H
           have c41b0 : (t296 == 0) = false := beq_eq_false_iff_ne.mpr c41
           have c41b1 : (t296 != 0) = true := bne_iff_ne.mpr c41
           simp only [Option.some.injEq, Prod.mk.injEq] at H
           obtain ⟨rfl, rfl, rfl, rfl, rfl, rfl⟩ := H
           go_wp2_with (first | ((with_reducible refine gate_callee (f := 42) rfl ?_); refine goesL_ (some 55) rfl rfl Try.func42 (by kernel_rfl) rfl #[.string a0, .int .i64 (wrap64 (a1 + 1))] rfl (by (try simp only [List.map_toArray, List.map_cons, List.map_nil]); first | done | rfl | (simp only [List.length_drop, List.length_take]; rfl)) ?_; (with_reducible refine (shuttlecockref01_Take.calls kj19 a0 (wrap64 (a1 + 1)) t294 t295 t296 _ A40.out).mono ?_); rintro e w104 ⟨rfl, hb⟩; refine ⟨_, rfl, ?_⟩; have n0_ := Am (blk_below (g := gb289) (o := .cells #[.int .i64 0, .int .i64 0, .slice none 0 0, .string (⟨#[]⟩ : ByteArray)] 28 (0, 0)) (by (with_reducible repeat (first | refine bn ?_ _ | refine bd ?_ | refine ba ?_ _)); exact BK289.out) hb); have n1_ := Am (blk_below (g := gb290) (o := .cells #[.int .i64 0, .int .i64 0, .slice none 0 0, .string (⟨#[]⟩ : ByteArray)] 28 (0, 0)) (by (with_reducible repeat (first | refine bn ?_ _ | refine bd ?_ | refine ba ?_ _)); exact BK290.out) hb); have n2_ := Am (blk_below (g := gb291) (o := .cells #[.int .i64 (wrap64 (bt a0 a1)), .int .i64 0, .slice none 0 0, .string (⟨#[]⟩ : ByteArray)] 28 (0, 0)) (by (with_reducible repeat (first | refine bn ?_ _ | refine bd ?_ | refine ba ?_ _)); exact BK291.out) hb); have n3_ := Am (below_step (by repeat (first | (with_reducible first | exact HB.out | apply bl | apply pN | apply b1 | refine bs ?_ GE289.out | refine bs ?_ GE290.out | refine bs ?_ GE291.out) | exact HB.out | exact HBo.out)) hb); clear BK289; clear BK290; clear BK291; clear HB; have BK289 := n0_; have BK290 := n1_; have BK291 := n2_; have HB := n3_; clear n0_ n1_ n2_ n3_; (try clear hb); (try clear hb2); (try clear hk); (try clear hi); have hnb105 := NB290_289.out; have hnc105 := NB289_290.out; have hnb106 := NB290_291.out; have hnc106 := NB291_290.out; have hcz107_0 : w104.cell? ⟨gb290, 0, none⟩ = some (.int .i64 0) := (bc BK290.out 0).trans rfl; have hcz107_1 : w104.cell? ⟨gb290, 1, none⟩ = some (.int .i64 0) := (bc BK290.out 1).trans rfl; have hcz107_2 : w104.cell? ⟨gb290, 2, none⟩ = some (.slice none 0 0) := (bc BK290.out 2).trans rfl; have hcz107_3 : w104.cell? ⟨gb290, 3, none⟩ = some (.string (⟨#[]⟩ : ByteArray)) := (bc BK290.out 3).trans rfl; have hfz107_0 := bf BK290.out 0; have hfz107_1 := bf BK290.out 1; have hfz107_2 := bf BK290.out 2; have hfz107_3 := bf BK290.out 3; have hnb108 := NB289_291.out; have hnc108 := NB291_289.out; have hcz109_0 : w104.cell? ⟨gb289, 0, none⟩ = some (.int .i64 0) := (bc BK289.out 0).trans rfl; have hcz109_1 : w104.cell? ⟨gb289, 1, none⟩ = some (.int .i64 0) := (bc BK289.out 1).trans rfl; have hcz109_2 : w104.cell? ⟨gb289, 2, none⟩ = some (.slice none 0 0) := (bc BK289.out 2).trans rfl; have hcz109_3 : w104.cell? ⟨gb289, 3, none⟩ = some (.string (⟨#[]⟩ : ByteArray)) := (bc BK289.out 3).trans rfl; have hfz109_0 := bf BK289.out 0; have hfz109_1 := bf BK289.out 1; have hfz109_2 := bf BK289.out 2; have hfz109_3 := bf BK289.out 3))
           refine bodyPost_ret (results_ctt rfl _ _ gb289 28 #[.int .i64 0, .int .i64 0, .slice none 0 0, .string (⟨#[]⟩ : ByteArray)] (0, 0) _ rfl (by (with_reducible repeat (first | refine bn ?_ _ | refine bd ?_ | refine ba ?_ _)); refine blk_put (cs := #[.int .i64 0, .int .i64 0, .slice none 0 0, .string (⟨#[]⟩ : ByteArray)]) ?_ 3 _ rfl; (with_reducible repeat (first | refine bn ?_ _ | refine bd ?_ | refine ba ?_ _)); refine blk_put (cs := #[.int .i64 0, .int .i64 0, .slice none 0 0, .string (⟨#[]⟩ : ByteArray)]) ?_ 2 _ rfl; (with_reducible repeat (first | refine bn ?_ _ | refine bd ?_ | refine ba ?_ _)); refine blk_put (cs := #[.int .i64 0, .int .i64 0, .slice none 0 0, .string (⟨#[]⟩ : ByteArray)]) ?_ 1 _ rfl; (with_reducible repeat (first | refine bn ?_ _ | refine bd ?_ | refine ba ?_ _)); refine blk_put (cs := #[.int .i64 0, .int .i64 0, .slice none 0 0, .string (⟨#[]⟩ : ByteArray)]) ?_ 0 _ rfl; (with_reducible repeat (first | refine bn ?_ _ | refine bd ?_ | refine ba ?_ _)); exact BK289.out) Try.underlying28 rfl (by kernel_rfl)) rfl ?_
           exact ⟨_, by first | rfl | (simp [errW_none, errW_some] <;> rfl) | (simp [*, errW_none, errW_some] <;> rfl) | (simp [Aid.ne_nil, Aid.eq_nil, errW_none, errW_some]; done), by first | exact Kd.R_nil _ _ _ _ _ | exact Kd.N_nil _ _ _ _ _ | exact Kd.V_nil _ _ _ _ _ | exact Kd.Q_nil _ _ _ _ _ | exact Kd.S_nil _ _ _ _ _, by repeat (first | (with_reducible first | exact HB.out | apply bl | apply pN | apply b1 | refine bs ?_ GE289.out | refine bs ?_ GE290.out | refine bs ?_ GE291.out) | exact HB.out | exact HBo.out)⟩
      ·
       rw [if_neg c18] at H
       exact absurd H (by simp)
     ·
      rw [if_neg c17] at H
      exact absurd H (by simp)

end Go.Proofs.Ytgpnkgmghnmmjaa.Q
