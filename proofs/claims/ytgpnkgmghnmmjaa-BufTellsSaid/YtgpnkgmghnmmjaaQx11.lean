-- printed by a program of this session (NOTES: hprint); not the kit's print
-- minified
-- halved
import Derived.Test.YtgpnkgmghnmmjaaAl
import Derived.Test.YtgpnkgmghnmmjaaQx0
import Derived.Test.YtgpnkgmghnmmjaaQx29
import Derived.Test.YtgpnkgmghnmmjaaQx9
import Derived.Test.YtgpnkgmghnmmjaaQx10
namespace Go.Proofs.Ytgpnkgmghnmmjaa.Q
open Go.RowKit Go.Proofs.YtgpnkgmghnmmjaaW.PrintWords Go.Proofs.YtgpnkgmghnmmjaaW.PrintLast Go.Proofs.YtgpnkgmghnmmjaaW.PrintMore
attribute [local go_sem] max2_int min2_int max_two min_two max_three min_three max_four min_four   -- for this text's walks alone
set_option linter.unusedVariables false
set_option linter.unusedSimpArgs false

def q11_0 : Array Bool := let o := true; let z := false; #[z,z,z,z,z,z,z]
def q11_1 : Array Bool := let o := true; let z := false; #[o,z,z,z,z,z,z]
def q11_2 : Array Bool := let o := true; let z := false; #[o,o,z,z,z,z,z]
def q11_3 : Array Bool := let o := true; let z := false; #[o,o,o,z,z,z,z]
def q11_4 : Array Bool := let o := true; let z := false; #[o,o,o,o,z,z,z]
def q11_5 : Array Bool := let o := true; let z := false; #[o,o,o,o,o,z,z]
def q11_6 : Array Bool := let o := true; let z := false; #[o,o,o,o,o,o,z]
def q11_7 : Array Bool := let o := true; let z := false; #[o,o,o,o,o,o,o]
/-! ### shuttlecockref19_Put: function 11 -/
mutual
def shuttlecockref19_Put.j0 : Nat → Int → Bool → Int → Int → Int → ByteArray → Int → Int → List Int → ByteArray → Option (Int × Int × Int × ByteArray × Bool)
 | 0, _, _, _, _, _, _, _, _, _, _ => none
 | k + 1, x1, x22, x230000, x230001, x230002, x230003, x231000, x231001, x231002, x231003 => if x22 = true then (some (0, 0, 0, (⟨#[]⟩ : ByteArray), false)) else (if (x230003.size : Int) = 0 then (shuttlecockref19_Put.j1 k x1 x230000 x1 x1 x230003 x231000 x231001 x231002 x231003) else (shuttlecockref19_Put.j1 k x1 x230000 x230001 x230002 x230003 x231000 x231001 x231002 x231003))
def shuttlecockref19_Put.j1 : Nat → Int → Int → Int → Int → ByteArray → Int → Int → List Int → ByteArray → Option (Int × Int × Int × ByteArray × Bool)
 | 0, _, _, _, _, _, _, _, _, _ => none
 | k + 1, x1, x230000, x230001, x230002, x230003, x231000, x231001, x231002, x231003 => (shuttlecockref04_May.f k x231000 (wrap64 (x1 - x230002)) x231002 x231003).bind fun t233 => (if t233 = true then ((shuttlecockref04_Encode.f k x231000 (wrap64 (x1 - x230002)) x231002 x231003).bind fun t234 => (if x230003.size + t234.size ≤ 9223372036854775807 then (some (x230000, x230001, x1, x230003 ++ t234, true)) else (none))) else (some (0, 0, 0, (⟨#[]⟩ : ByteArray), false)))
end
def shuttlecockref19_Put.f (k : Nat) (a0_0 : Int) (a0_1 : Int) (a0_2 : Int) (a0_3 : ByteArray) (a1 : Int) (a2_0 : Int) (a2_1 : Int) (l2_2 : List Int) (a2_3 : ByteArray) : Option (Int × Int × Int × ByteArray × Bool) := (shuttlecockref04_Fits.f a1).bind fun t232 => (if t232 = true then (if (a0_3.size : Int) > 0 then (shuttlecockref19_Put.j0 k a1 (decide (a1 < a0_2)) a0_0 a0_1 a0_2 a0_3 a2_0 a2_1 l2_2 a2_3) else (shuttlecockref19_Put.j0 k a1 false a0_0 a0_1 a0_2 a0_3 a2_0 a2_1 l2_2 a2_3)) else (shuttlecockref19_Put.j0 k a1 true a0_0 a0_1 a0_2 a0_3 a2_0 a2_1 l2_2 a2_3))
theorem shuttlecockref19_Put.mono_l : ∀ k, (∀ y0 y1 y2 y3 y4 y5 y6 y7 y8 y9, LeO (shuttlecockref19_Put.j0 k y0 y1 y2 y3 y4 y5 y6 y7 y8 y9) (shuttlecockref19_Put.j0 (k + 1) y0 y1 y2 y3 y4 y5 y6 y7 y8 y9)) ∧ (∀ y0 y1 y2 y3 y4 y5 y6 y7 y8, LeO (shuttlecockref19_Put.j1 k y0 y1 y2 y3 y4 y5 y6 y7 y8) (shuttlecockref19_Put.j1 (k + 1) y0 y1 y2 y3 y4 y5 y6 y7 y8))
 | 0 => ⟨fun _ _ _ _ _ _ _ _ _ _ r h => by simp [shuttlecockref19_Put.j0] at h, fun _ _ _ _ _ _ _ _ _ r h => by simp [shuttlecockref19_Put.j1] at h⟩
 | k + 1 => by
  obtain ⟨ih0, ih1⟩ := shuttlecockref19_Put.mono_l k
  refine ⟨?_, ?_⟩
  ·
   intro y0 y1 y2 y3 y4 y5 y6 y7 y8 y9
   unfold shuttlecockref19_Put.j0
   repeat' first
   | (with_reducible exact ih0 _ _ _ _ _ _ _ _ _ _)
   | (with_reducible exact ih1 _ _ _ _ _ _ _ _ _)
   | (with_reducible exact shuttlecockref04_Encode.mono _ _ _ _ _)
   | (with_reducible exact shuttlecockref04_May.mono _ _ _ _ _)
   | (with_reducible exact LeO.refl _)
   | (with_reducible exact LeO.none _)
   | (with_reducible refine LeO.ite ?_ ?_)
   | (with_reducible refine LeO.bind ?_ (fun _ => ?_))
   | exact ih0 _ _ _ _ _ _ _ _ _ _
   | exact ih1 _ _ _ _ _ _ _ _ _
   | exact shuttlecockref04_Encode.mono _ _ _ _ _
   | exact shuttlecockref04_May.mono _ _ _ _ _
   | exact LeO.none _
   | refine LeO.ite ?_ ?_
   | refine LeO.bind ?_ (fun _ => ?_)
  ·
   intro y0 y1 y2 y3 y4 y5 y6 y7 y8
   unfold shuttlecockref19_Put.j1
   repeat' first
   | (with_reducible exact ih0 _ _ _ _ _ _ _ _ _ _)
   | (with_reducible exact ih1 _ _ _ _ _ _ _ _ _)
   | (with_reducible exact shuttlecockref04_Encode.mono _ _ _ _ _)
   | (with_reducible exact shuttlecockref04_May.mono _ _ _ _ _)
   | (with_reducible exact LeO.refl _)
   | (with_reducible exact LeO.none _)
   | (with_reducible refine LeO.ite ?_ ?_)
   | (with_reducible refine LeO.bind ?_ (fun _ => ?_))
   | exact ih0 _ _ _ _ _ _ _ _ _ _
   | exact ih1 _ _ _ _ _ _ _ _ _
   | exact shuttlecockref04_Encode.mono _ _ _ _ _
   | exact shuttlecockref04_May.mono _ _ _ _ _
   | exact LeO.none _
   | refine LeO.ite ?_ ?_
   | refine LeO.bind ?_ (fun _ => ?_)
theorem shuttlecockref19_Put.mono : ∀ a0 a1 a2 a3 a4 a5 a6 a7 a8 k, LeO (shuttlecockref19_Put.f k a0 a1 a2 a3 a4 a5 a6 a7 a8) (shuttlecockref19_Put.f (k + 1) a0 a1 a2 a3 a4 a5 a6 a7 a8) := by
 intro a0 a1 a2 a3 a4 a5 a6 a7 a8 k
 obtain ⟨ih0, ih1⟩ := shuttlecockref19_Put.mono_l k
 unfold shuttlecockref19_Put.f
 repeat' first
   | (with_reducible exact ih0 _ _ _ _ _ _ _ _ _ _)
   | (with_reducible exact ih1 _ _ _ _ _ _ _ _ _)
   | (with_reducible exact shuttlecockref04_Encode.mono _ _ _ _ _)
   | (with_reducible exact shuttlecockref04_May.mono _ _ _ _ _)
   | (with_reducible exact LeO.refl _)
   | (with_reducible exact LeO.none _)
   | (with_reducible refine LeO.ite ?_ ?_)
   | (with_reducible refine LeO.bind ?_ (fun _ => ?_))
   | exact ih0 _ _ _ _ _ _ _ _ _ _
   | exact ih1 _ _ _ _ _ _ _ _ _
   | exact shuttlecockref04_Encode.mono _ _ _ _ _
   | exact shuttlecockref04_May.mono _ _ _ _ _
   | exact LeO.none _
   | refine LeO.ite ?_ ?_
   | refine LeO.bind ?_ (fun _ => ?_)
set_option maxHeartbeats 8000000 in
set_option maxRecDepth 100000 in
theorem shuttlecockref19_Put.calls (k : Nat) (a0_0 : Int) (a0_1 : Int) (a0_2 : Int) (a0_3 : ByteArray) (a1 : Int) (a2_0 : Int) (a2_1 : Int) (A2_2 : Option Addr) (c2_2 : Nat) (l2_2 : List Int) (a2_3 : ByteArray) (r1 : Int) (r2 : Int) (r3 : Int) (r4 : ByteArray) (r5 : Bool) (w : World) (hr2_2 : Kd.C (Kd.int .i64) w A2_2 l2_2.length l2_2) (hc2_2 : l2_2.length ≤ c2_2) (h : shuttlecockref19_Put.f k a0_0 a0_1 a0_2 a0_3 a1 a2_0 a2_1 l2_2 a2_3 = some (r1, r2, r3, r4, r5)) :
  Calls Try.prog 11 #[.agg #[.int .i64 a0_0, .int .i64 a0_1, .int .i64 a0_2, .string a0_3], .int .i64 a1, .agg #[.int .i64 a2_0, .int .i64 a2_1, .slice A2_2 l2_2.length c2_2, .string a2_3]] w fun e w' => e = .returned (.tuple #[.agg #[.int .i64 r1, .int .i64 r2, .int .i64 r3, .string r4], .bool r5]) ∧ Below w.heap.size w w' := by
 have hu23 := Try.underlying23
 have hu28 := Try.underlying28
 have HR2_2 := Am hr2_2
 have HC2_2 := Am hc2_2
 clear hr2_2 hc2_2
 have HB := Am (Below.refl w.heap.size w)
 have H : ((shuttlecockref04_Fits.f a1).bind fun t232 => (if t232 = true then (if (a0_3.size : Int) > 0 then (shuttlecockref19_Put.j0 k a1 (decide (a1 < a0_2)) a0_0 a0_1 a0_2 a0_3 a2_0 a2_1 l2_2 a2_3) else (shuttlecockref19_Put.j0 k a1 false a0_0 a0_1 a0_2 a0_3 a2_0 a2_1 l2_2 a2_3)) else (shuttlecockref19_Put.j0 k a1 true a0_0 a0_1 a0_2 a0_3 a2_0 a2_1 l2_2 a2_3))) = some (r1, r2, r3, r4, r5) := h
 clear h
 have HC4 := Am H
 clear H
 go_enter Try.func11, Try.ntmps11
 go_upto_region 1 with (first | ((with_reducible refine gate_dst (N := 3) rfl ?_); (try (refine gate_guard (by rfl) ?_; dsimp only)); refine box_event ?hg (N := 3) ?hd (cs := #[.int .i64 a0_0, .int .i64 a0_1, .int .i64 a0_2, .string a0_3]) (t := 23) ?hr ?_; (case hd => rfl); (case hg => rfl); (case hr => first | (go_simp; done) | (go_simp; rfl)); intro gb229 hg w5 hbox hb; have n0_ := Am (below_step (by repeat (first | (with_reducible first | exact HB.out | apply bl | apply pN | apply b1) | exact HB.out | exact HBo.out)) hb); have n1_ := Am (hbox); have n2_ := Am ((by rw [hg]; exact (below_size (by repeat (first | (with_reducible first | exact HB.out | apply bl | apply pN | apply b1) | exact HB.out | exact HBo.out))) : w.heap.size ≤ gb229)); have n3_ := Am ((by rw [hg]; exact (below_size (by repeat (first | (with_reducible first | exact HB.out | apply bl | apply pN | apply b1) | exact HB.out | exact HBo.out))) : w.heap.size ≤ gb229)); clear HB; have HB := n0_; have BK229 := n1_; have GW229 := n2_; have GE229 := n3_; clear n0_ n1_ n2_ n3_; clear hb hbox hg) | ((with_reducible refine gate_dst (N := 5) rfl ?_); (try (refine gate_guard (by rfl) ?_; dsimp only)); refine box_event ?hg (N := 5) ?hd (cs := #[.int .i64 a2_0, .int .i64 a2_1, .slice A2_2 l2_2.length c2_2, .string a2_3]) (t := 28) ?hr ?_; (case hd => rfl); (case hg => rfl); (case hr => first | (go_simp; done) | (go_simp; rfl)); intro gb230 hg w6 hbox hb; have n0_ := Am (blk_below (g := gb229) (o := .cells #[.int .i64 a0_0, .int .i64 a0_1, .int .i64 a0_2, .string a0_3] 23 (0, 0)) (by (with_reducible repeat (first | refine bn ?_ _ | refine bd ?_ | refine ba ?_ _)); exact BK229.out) hb); have n1_ := Am (below_step (by repeat (first | (with_reducible first | exact HB.out | apply bl | apply pN | apply b1 | refine bs ?_ GE229.out) | exact HB.out | exact HBo.out)) hb); have n2_ := Am (hbox); have n3_ := Am ((by rw [hg]; exact (below_size (by repeat (first | (with_reducible first | exact HB.out | apply bl | apply pN | apply b1 | refine bs ?_ GE229.out) | exact HB.out | exact HBo.out))) : w.heap.size ≤ gb230)); have n4_ := Am ((by rw [hg]; exact (below_size (by repeat (first | (with_reducible first | exact HB.out | apply bl | apply pN | apply b1 | refine bs ?_ GE229.out) | exact HB.out | exact HBo.out))) : w.heap.size ≤ gb230)); have n5_ := Am ((by rw [hg]; exact Nat.ne_of_lt (blk_lt (g := gb229) (o := .cells #[.int .i64 a0_0, .int .i64 a0_1, .int .i64 a0_2, .string a0_3] 23 (0, 0)) (by (with_reducible repeat (first | refine bn ?_ _ | refine bd ?_ | refine ba ?_ _)); exact BK229.out)) : gb229 ≠ gb230)); have n6_ := Am ((by rw [hg]; exact Nat.ne_of_gt (blk_lt (g := gb229) (o := .cells #[.int .i64 a0_0, .int .i64 a0_1, .int .i64 a0_2, .string a0_3] 23 (0, 0)) (by (with_reducible repeat (first | refine bn ?_ _ | refine bd ?_ | refine ba ?_ _)); exact BK229.out)) : gb230 ≠ gb229)); clear BK229; clear HB; have BK229 := n0_; have HB := n1_; have BK230 := n2_; have GW230 := n3_; have GE230 := n4_; have NB229_230 := n5_; have NB230_229 := n6_; clear n0_ n1_ n2_ n3_ n4_ n5_ n6_; clear hb hbox hg) | ((with_reducible refine gate_dst (N := 6) rfl ?_); (try (refine gate_guard (by rfl) ?_; dsimp only)); refine box_event ?hg (N := 6) ?hd (cs := #[.int .i64 0, .int .i64 0, .int .i64 0, .string (⟨#[]⟩ : ByteArray)]) (t := 23) ?hr ?_; (case hd => rfl); (case hg => rfl); (case hr => first | (go_simp; done) | (go_simp; rfl)); intro gb231 hg w7 hbox hb; have n0_ := Am (blk_below (g := gb229) (o := .cells #[.int .i64 a0_0, .int .i64 a0_1, .int .i64 a0_2, .string a0_3] 23 (0, 0)) (by (with_reducible repeat (first | refine bn ?_ _ | refine bd ?_ | refine ba ?_ _)); exact BK229.out) hb); have n1_ := Am (blk_below (g := gb230) (o := .cells #[.int .i64 a2_0, .int .i64 a2_1, .slice A2_2 l2_2.length c2_2, .string a2_3] 28 (0, 0)) (by (with_reducible repeat (first | refine bn ?_ _ | refine bd ?_ | refine ba ?_ _)); exact BK230.out) hb); have n2_ := Am (below_step (by repeat (first | (with_reducible first | exact HB.out | apply bl | apply pN | apply b1 | refine bs ?_ GE229.out | refine bs ?_ GE230.out) | exact HB.out | exact HBo.out)) hb); have n3_ := Am (hbox); have n4_ := Am ((by rw [hg]; exact (below_size (by repeat (first | (with_reducible first | exact HB.out | apply bl | apply pN | apply b1 | refine bs ?_ GE229.out | refine bs ?_ GE230.out) | exact HB.out | exact HBo.out))) : w.heap.size ≤ gb231)); have n5_ := Am ((by rw [hg]; exact (below_size (by repeat (first | (with_reducible first | exact HB.out | apply bl | apply pN | apply b1 | refine bs ?_ GE229.out | refine bs ?_ GE230.out) | exact HB.out | exact HBo.out))) : w.heap.size ≤ gb231)); have n6_ := Am ((by rw [hg]; exact Nat.ne_of_lt (blk_lt (g := gb229) (o := .cells #[.int .i64 a0_0, .int .i64 a0_1, .int .i64 a0_2, .string a0_3] 23 (0, 0)) (by (with_reducible repeat (first | refine bn ?_ _ | refine bd ?_ | refine ba ?_ _)); exact BK229.out)) : gb229 ≠ gb231)); have n7_ := Am ((by rw [hg]; exact Nat.ne_of_gt (blk_lt (g := gb229) (o := .cells #[.int .i64 a0_0, .int .i64 a0_1, .int .i64 a0_2, .string a0_3] 23 (0, 0)) (by (with_reducible repeat (first | refine bn ?_ _ | refine bd ?_ | refine ba ?_ _)); exact BK229.out)) : gb231 ≠ gb229)); have n8_ := Am ((by rw [hg]; exact Nat.ne_of_lt (blk_lt (g := gb230) (o := .cells #[.int .i64 a2_0, .int .i64 a2_1, .slice A2_2 l2_2.length c2_2, .string a2_3] 28 (0, 0)) (by (with_reducible repeat (first | refine bn ?_ _ | refine bd ?_ | refine ba ?_ _)); exact BK230.out)) : gb230 ≠ gb231)); have n9_ := Am ((by rw [hg]; exact Nat.ne_of_gt (blk_lt (g := gb230) (o := .cells #[.int .i64 a2_0, .int .i64 a2_1, .slice A2_2 l2_2.length c2_2, .string a2_3] 28 (0, 0)) (by (with_reducible repeat (first | refine bn ?_ _ | refine bd ?_ | refine ba ?_ _)); exact BK230.out)) : gb231 ≠ gb230)); clear BK229; clear BK230; clear HB; have BK229 := n0_; have BK230 := n1_; have HB := n2_; have BK231 := n3_; have GW231 := n4_; have GE231 := n5_; have NB229_231 := n6_; have NB231_229 := n7_; have NB230_231 := n8_; have NB231_230 := n9_; clear n0_ n1_ n2_ n3_ n4_ n5_ n6_ n7_ n8_ n9_; clear hb hbox hg))
 (try simp only [Act.put, sI, sZ, sS])
 go_cut [22] (fun v22 wc => ∃ (kq : Nat) (x22_3 : Bool), v22 = .bool x22_3 ∧ Aside0 (shuttlecockref19_Put.j0 kq a1 x22_3 a0_0 a0_1 a0_2 a0_3 a2_0 a2_1 l2_2 a2_3 = some (r1, r2, r3, r4, r5)) ∧ Aside0 (kq ≤ k) ∧ Aside0 (wc.heap[gb229]? = some (.cells #[.int .i64 a0_0, .int .i64 a0_1, .int .i64 a0_2, .string a0_3] 23 (0, 0))) ∧ Aside0 (wc.heap[gb230]? = some (.cells #[.int .i64 a2_0, .int .i64 a2_1, (.slice A2_2 l2_2.length c2_2), .string a2_3] 28 (0, 0))) ∧ Aside0 (wc.heap[gb231]? = some (.cells #[.int .i64 0, .int .i64 0, .int .i64 0, .string (⟨#[]⟩ : ByteArray)] 23 (0, 0))) ∧ Aside0 (Below w.heap.size w wc))
 case first =>
  have H := HC4.out
  clear HC4
  replace H := ob H
  obtain ⟨t232, A80, H⟩ := H
  replace H : (if t232 = true then (if (a0_3.size : Int) > 0 then (shuttlecockref19_Put.j0 k a1 (decide (a1 < a0_2)) a0_0 a0_1 a0_2 a0_3 a2_0 a2_1 l2_2 a2_3) else (shuttlecockref19_Put.j0 k a1 false a0_0 a0_1 a0_2 a0_3 a2_0 a2_1 l2_2 a2_3)) else (shuttlecockref19_Put.j0 k a1 true a0_0 a0_1 a0_2 a0_3 a2_0 a2_1 l2_2 a2_3)) = some (r1, r2, r3, r4, r5) := H
  have A8 := Am A80
  clear A80
  by_cases c9 : t232 = true
  ·
   subst c9
   have H1 : (if (a0_3.size : Int) > 0 then (shuttlecockref19_Put.j0 k a1 (decide (a1 < a0_2)) a0_0 a0_1 a0_2 a0_3 a2_0 a2_1 l2_2 a2_3) else (shuttlecockref19_Put.j0 k a1 false a0_0 a0_1 a0_2 a0_3 a2_0 a2_1 l2_2 a2_3)) = some (r1, r2, r3, r4, r5) := by rw [if_pos rfl] at H; exact H
   clear H
   have H := H1
   clear H1
   by_cases c10 : (a0_3.size : Int) > 0
   ·
    rw [if_pos c10] at H
    have c10b0 : decide (0 < (a0_3.size : Int)) = true := decide_eq_true c10
    have c10b1 : decide (0 < a0_3.size) = true := decide_eq_true (by omega)
    clear c10
    (first | rw [c10b0] | (simp only [i64_w, i32_w]; rw [c10b0]) | skip)
    have H' := Am H
    clear H
    go_wp2_with (first | ((with_reducible refine gate_callee (f := 20) rfl ?_); refine goesL_ (some 9) rfl rfl Try.func20 (by kernel_rfl) rfl #[.int .i64 a1] rfl (by (try simp only [List.map_toArray, List.map_cons, List.map_nil]); first | done | rfl | (simp only [List.length_drop, List.length_take]; rfl)) ?_; (with_reducible refine (shuttlecockref04_Fits.calls a1 true _ A8.out).mono ?_); rintro e w' ⟨rfl, ⟨nd, rfl⟩⟩; refine ⟨_, rfl, ?_⟩; have hnb11 := NB229_230.out; have hnc11 := NB230_229.out; have hnb12 := NB229_231.out; have hnc12 := NB231_229.out; have hcz13_0 : w7.cell? ⟨gb229, 0, none⟩ = some (.int .i64 a0_0) := (bc BK229.out 0).trans rfl; have hcz13_1 : w7.cell? ⟨gb229, 1, none⟩ = some (.int .i64 a0_1) := (bc BK229.out 1).trans rfl; have hcz13_2 : w7.cell? ⟨gb229, 2, none⟩ = some (.int .i64 a0_2) := (bc BK229.out 2).trans rfl; have hcz13_3 : w7.cell? ⟨gb229, 3, none⟩ = some (.string a0_3) := (bc BK229.out 3).trans rfl; have hfz13_0 := bf BK229.out 0; have hfz13_1 := bf BK229.out 1; have hfz13_2 := bf BK229.out 2; have hfz13_3 := bf BK229.out 3))
    go_meet
    case rel => exact ⟨_, (decide (a1 < a0_2)), (by first | rfl | (simp; done) | (simp [*]; done)), H', ⟨by first | omega | exact Nat.le_refl _⟩, ⟨by (with_reducible repeat (first | refine bn ?_ _ | refine bd ?_ | refine ba ?_ _)); exact BK229.out⟩, ⟨by (with_reducible repeat (first | refine bn ?_ _ | refine bd ?_ | refine ba ?_ _)); exact BK230.out⟩, ⟨by (with_reducible repeat (first | refine bn ?_ _ | refine bd ?_ | refine ba ?_ _)); exact BK231.out⟩, ⟨by repeat (first | (with_reducible first | exact HB.out | apply bl | apply pN | apply b1 | refine bs ?_ GE229.out | refine bs ?_ GE230.out | refine bs ?_ GE231.out) | exact HB.out | exact HBo.out)⟩⟩
   ·
    rw [if_neg c10] at H
    have c10b0 : decide (0 < (a0_3.size : Int)) = false := decide_eq_false c10
    have c10b1 : decide (0 < a0_3.size) = false := decide_eq_false (by omega)
    clear c10
    (first | rw [c10b0] | (simp only [i64_w, i32_w]; rw [c10b0]) | skip)
    have H' := Am H
    clear H
    go_wp2_with (first | ((with_reducible refine gate_callee (f := 20) rfl ?_); refine goesL_ (some 9) rfl rfl Try.func20 (by kernel_rfl) rfl #[.int .i64 a1] rfl (by (try simp only [List.map_toArray, List.map_cons, List.map_nil]); first | done | rfl | (simp only [List.length_drop, List.length_take]; rfl)) ?_; (with_reducible refine (shuttlecockref04_Fits.calls a1 true _ A8.out).mono ?_); rintro e w' ⟨rfl, ⟨nd, rfl⟩⟩; refine ⟨_, rfl, ?_⟩; have hnb14 := NB229_230.out; have hnc14 := NB230_229.out; have hnb15 := NB229_231.out; have hnc15 := NB231_229.out; have hcz16_0 : w7.cell? ⟨gb229, 0, none⟩ = some (.int .i64 a0_0) := (bc BK229.out 0).trans rfl; have hcz16_1 : w7.cell? ⟨gb229, 1, none⟩ = some (.int .i64 a0_1) := (bc BK229.out 1).trans rfl; have hcz16_2 : w7.cell? ⟨gb229, 2, none⟩ = some (.int .i64 a0_2) := (bc BK229.out 2).trans rfl; have hcz16_3 : w7.cell? ⟨gb229, 3, none⟩ = some (.string a0_3) := (bc BK229.out 3).trans rfl; have hfz16_0 := bf BK229.out 0; have hfz16_1 := bf BK229.out 1; have hfz16_2 := bf BK229.out 2; have hfz16_3 := bf BK229.out 3))
    go_meet
    case rel => exact ⟨_, (false), (by first | rfl | (simp; done) | (simp [*]; done)), H', ⟨by first | omega | exact Nat.le_refl _⟩, ⟨by (with_reducible repeat (first | refine bn ?_ _ | refine bd ?_ | refine ba ?_ _)); exact BK229.out⟩, ⟨by (with_reducible repeat (first | refine bn ?_ _ | refine bd ?_ | refine ba ?_ _)); exact BK230.out⟩, ⟨by (with_reducible repeat (first | refine bn ?_ _ | refine bd ?_ | refine ba ?_ _)); exact BK231.out⟩, ⟨by repeat (first | (with_reducible first | exact HB.out | apply bl | apply pN | apply b1 | refine bs ?_ GE229.out | refine bs ?_ GE230.out | refine bs ?_ GE231.out) | exact HB.out | exact HBo.out)⟩⟩
  ·
   replace c9 := Bool.eq_false_iff.mpr c9
   subst c9
   have H1 : (shuttlecockref19_Put.j0 k a1 true a0_0 a0_1 a0_2 a0_3 a2_0 a2_1 l2_2 a2_3) = some (r1, r2, r3, r4, r5) := by rw [if_neg (show ¬ (false = true) by decide)] at H; exact H
   clear H
   have H := H1
   clear H1
   have H' := Am H
   clear H
   go_wp2_with (first | ((with_reducible refine gate_callee (f := 20) rfl ?_); refine goesL_ (some 9) rfl rfl Try.func20 (by kernel_rfl) rfl #[.int .i64 a1] rfl (by (try simp only [List.map_toArray, List.map_cons, List.map_nil]); first | done | rfl | (simp only [List.length_drop, List.length_take]; rfl)) ?_; (with_reducible refine (shuttlecockref04_Fits.calls a1 false _ A8.out).mono ?_); rintro e w' ⟨rfl, ⟨nd, rfl⟩⟩; refine ⟨_, rfl, ?_⟩))
   go_meet
   case rel => exact ⟨_, (true), (by first | rfl | (simp; done) | (simp [*]; done)), H', ⟨by first | omega | exact Nat.le_refl _⟩, ⟨by (with_reducible repeat (first | refine bn ?_ _ | refine bd ?_ | refine ba ?_ _)); exact BK229.out⟩, ⟨by (with_reducible repeat (first | refine bn ?_ _ | refine bd ?_ | refine ba ?_ _)); exact BK230.out⟩, ⟨by (with_reducible repeat (first | refine bn ?_ _ | refine bd ?_ | refine ba ?_ _)); exact BK231.out⟩, ⟨by repeat (first | (with_reducible first | exact HB.out | apply bl | apply pN | apply b1 | refine bs ?_ GE229.out | refine bs ?_ GE230.out | refine bs ?_ GE231.out) | exact HB.out | exact HBo.out)⟩⟩
 case rest =>
  clear HC4
  try clear c1
  try clear c2
  try clear p2
  try clear c9
  try clear c10
  try clear c10b0
  try clear c10b1
  try clear c11
  try clear c12
  try clear c14
  try clear c15
  try clear hcz13_0
  try clear hcz13_1
  try clear hcz13_2
  try clear hcz13_3
  try clear hcz16_0
  try clear hcz16_1
  try clear hcz16_2
  try clear hcz16_3
  try clear hfz13_0
  try clear hfz13_1
  try clear hfz13_2
  try clear hfz13_3
  try clear hfz16_0
  try clear hfz16_1
  try clear hfz16_2
  try clear hfz16_3
  obtain ⟨kq, x22_3, rfl, HA, HJ3, BK229, BK230, BK231, HB⟩ := hcut
  cases kq with
  | zero => exact absurd HA.out (by simp [shuttlecockref19_Put.j0])
  | succ kj3 =>
   have H := HA.out
   clear HA
   simp only [shuttlecockref19_Put.j0] at H
   by_cases c17 : x22_3 = true
   ·
    subst c17
    have H1 : (some (0, 0, 0, (⟨#[]⟩ : ByteArray), false)) = some (r1, r2, r3, r4, r5) := by rw [if_pos rfl] at H; exact H
    clear H
    have H := H1
    clear H1
    simp only [Option.some.injEq, Prod.mk.injEq] at H
    obtain ⟨rfl, rfl, rfl, rfl, rfl⟩ := H
    have hnb18 := NB231_229.out
    have hnc18 := NB229_231.out
    have hnb19 := NB231_230.out
    have hnc19 := NB230_231.out
    have hcz20_0 : wc.cell? ⟨gb231, 0, none⟩ = some (.int .i64 0) := (bc BK231.out 0).trans rfl
    have hcz20_1 : wc.cell? ⟨gb231, 1, none⟩ = some (.int .i64 0) := (bc BK231.out 1).trans rfl
    have hcz20_2 : wc.cell? ⟨gb231, 2, none⟩ = some (.int .i64 0) := (bc BK231.out 2).trans rfl
    have hcz20_3 : wc.cell? ⟨gb231, 3, none⟩ = some (.string (⟨#[]⟩ : ByteArray)) := (bc BK231.out 3).trans rfl
    have hfz20_0 := bf BK231.out 0
    have hfz20_1 := bf BK231.out 1
    have hfz20_2 := bf BK231.out 2
    have hfz20_3 := bf BK231.out 3
    go_wp2
    refine bodyPost_ret (results_ct rfl _ _ gb231 23 #[.int .i64 0, .int .i64 0, .int .i64 0, .string (⟨#[]⟩ : ByteArray)] (0, 0) _ rfl (by (with_reducible repeat (first | refine bn ?_ _ | refine bd ?_ | refine ba ?_ _)); refine blk_put (cs := #[.int .i64 0, .int .i64 0, .int .i64 0, .string (⟨#[]⟩ : ByteArray)]) ?_ 3 _ rfl; (with_reducible repeat (first | refine bn ?_ _ | refine bd ?_ | refine ba ?_ _)); refine blk_put (cs := #[.int .i64 0, .int .i64 0, .int .i64 0, .string (⟨#[]⟩ : ByteArray)]) ?_ 2 _ rfl; (with_reducible repeat (first | refine bn ?_ _ | refine bd ?_ | refine ba ?_ _)); refine blk_put (cs := #[.int .i64 0, .int .i64 0, .int .i64 0, .string (⟨#[]⟩ : ByteArray)]) ?_ 1 _ rfl; (with_reducible repeat (first | refine bn ?_ _ | refine bd ?_ | refine ba ?_ _)); refine blk_put (cs := #[.int .i64 0, .int .i64 0, .int .i64 0, .string (⟨#[]⟩ : ByteArray)]) ?_ 0 _ rfl; (with_reducible repeat (first | refine bn ?_ _ | refine bd ?_ | refine ba ?_ _)); exact BK231.out) Try.underlying23 rfl (by kernel_rfl)) rfl ?_
    exact ⟨by first | rfl | (simp [errW_none, errW_some] <;> rfl) | (simp [*, errW_none, errW_some] <;> rfl) | (simp [Aid.ne_nil, Aid.eq_nil, errW_none, errW_some]; done), by repeat (first | (with_reducible first | exact HB.out | apply bl | apply pN | apply b1 | refine bs ?_ GE229.out | refine bs ?_ GE230.out | refine bs ?_ GE231.out) | exact HB.out | exact HBo.out)⟩
   ·
    replace c17 := Bool.eq_false_iff.mpr c17
    subst c17
    have H1 : (if (a0_3.size : Int) = 0 then (shuttlecockref19_Put.j1 kj3 a1 a0_0 a1 a1 a0_3 a2_0 a2_1 l2_2 a2_3) else (shuttlecockref19_Put.j1 kj3 a1 a0_0 a0_1 a0_2 a0_3 a2_0 a2_1 l2_2 a2_3)) = some (r1, r2, r3, r4, r5) := by rw [if_neg (show ¬ (false = true) by decide)] at H; exact H
    clear H
    have H := H1
    clear H1
    have HC21 := Am H
    clear H
    have hnb22 := NB229_230.out
    have hnc22 := NB230_229.out
    have hnb23 := NB229_231.out
    have hnc23 := NB231_229.out
    have hcz24_0 : wc.cell? ⟨gb229, 0, none⟩ = some (.int .i64 a0_0) := (bc BK229.out 0).trans rfl
    have hcz24_1 : wc.cell? ⟨gb229, 1, none⟩ = some (.int .i64 a0_1) := (bc BK229.out 1).trans rfl
    have hcz24_2 : wc.cell? ⟨gb229, 2, none⟩ = some (.int .i64 a0_2) := (bc BK229.out 2).trans rfl
    have hcz24_3 : wc.cell? ⟨gb229, 3, none⟩ = some (.string a0_3) := (bc BK229.out 3).trans rfl
    have hfz24_0 := bf BK229.out 0
    have hfz24_1 := bf BK229.out 1
    have hfz24_2 := bf BK229.out 2
    have hfz24_3 := bf BK229.out 3
    go_upto_if 27 with (fail)
    go_cut [] (fun wc => ∃ (kq : Nat) (x230001_20 : Int) (x230002_20 : Int), Aside0 (shuttlecockref19_Put.j1 kq a1 a0_0 x230001_20 x230002_20 a0_3 a2_0 a2_1 l2_2 a2_3 = some (r1, r2, r3, r4, r5)) ∧ Aside0 (kq ≤ kj3) ∧ Aside0 (wc.heap[gb229]? = some (.cells #[.int .i64 a0_0, .int .i64 x230001_20, .int .i64 x230002_20, .string a0_3] 23 (0, 0))) ∧ Aside0 (wc.heap[gb230]? = some (.cells #[.int .i64 a2_0, .int .i64 a2_1, (.slice A2_2 l2_2.length c2_2), .string a2_3] 28 (0, 0))) ∧ Aside0 (wc.heap[gb231]? = some (.cells #[.int .i64 0, .int .i64 0, .int .i64 0, .string (⟨#[]⟩ : ByteArray)] 23 (0, 0))) ∧ Aside0 (Below w.heap.size w wc))
    case first =>
     have H := HC21.out
     clear HC21
     by_cases c25 : (a0_3.size : Int) = 0
     ·
      rw [if_pos c25] at H
      have c25b0 : ((a0_3.size : Int) == 0) = true := beq_iff_eq.mpr c25
      have c25b1 : ((a0_3.size : Int) != 0) = false := bne_eq_false_iff_eq.mpr c25
      clear c25
      (first | rw [c25b0] | (simp only [i64_w, i32_w]; rw [c25b0]) | skip)
      have H' := Am H
      clear H
      have hnb26 := NB229_230.out
      have hnc26 := NB230_229.out
      have hnb27 := NB229_231.out
      have hnc27 := NB231_229.out
      have hcz28_0 : wc.cell? ⟨gb229, 0, none⟩ = some (.int .i64 a0_0) := (bc BK229.out 0).trans rfl
      have hcz28_1 : wc.cell? ⟨gb229, 1, none⟩ = some (.int .i64 a0_1) := (bc BK229.out 1).trans rfl
      have hcz28_2 : wc.cell? ⟨gb229, 2, none⟩ = some (.int .i64 a0_2) := (bc BK229.out 2).trans rfl
      have hcz28_3 : wc.cell? ⟨gb229, 3, none⟩ = some (.string a0_3) := (bc BK229.out 3).trans rfl
      have hfz28_0 := bf BK229.out 0
      have hfz28_1 := bf BK229.out 1
      have hfz28_2 := bf BK229.out 2
      have hfz28_3 := bf BK229.out 3
      go_wp2
      go_meet
      case rel => exact ⟨_, (a1), (a1), H', ⟨by have := HJ3.out; first | omega | exact Nat.le_refl _⟩, ⟨by (with_reducible repeat (first | refine bn ?_ _ | refine bd ?_ | refine ba ?_ _)); refine blk_put (cs := #[.int .i64 a0_0, .int .i64 a1, .int .i64 a0_2, .string a0_3]) ?_ 2 _ rfl; (with_reducible repeat (first | refine bn ?_ _ | refine bd ?_ | refine ba ?_ _)); refine blk_put (cs := #[.int .i64 a0_0, .int .i64 a0_1, .int .i64 a0_2, .string a0_3]) ?_ 1 _ rfl; (with_reducible repeat (first | refine bn ?_ _ | refine bd ?_ | refine ba ?_ _)); exact BK229.out⟩, ⟨by (with_reducible repeat (first | refine bn ?_ _ | refine bd ?_ | refine ba ?_ _)); refine blk_far ?_ NB230_229.out _; (with_reducible repeat (first | refine bn ?_ _ | refine bd ?_ | refine ba ?_ _)); refine blk_far ?_ NB230_229.out _; (with_reducible repeat (first | refine bn ?_ _ | refine bd ?_ | refine ba ?_ _)); exact BK230.out⟩, ⟨by (with_reducible repeat (first | refine bn ?_ _ | refine bd ?_ | refine ba ?_ _)); refine blk_far ?_ NB231_229.out _; (with_reducible repeat (first | refine bn ?_ _ | refine bd ?_ | refine ba ?_ _)); refine blk_far ?_ NB231_229.out _; (with_reducible repeat (first | refine bn ?_ _ | refine bd ?_ | refine ba ?_ _)); exact BK231.out⟩, ⟨by repeat (first | (with_reducible first | exact HB.out | apply bl | apply pN | apply b1 | refine bs ?_ GE229.out | refine bs ?_ GE230.out | refine bs ?_ GE231.out) | exact HB.out | exact HBo.out)⟩⟩
     ·
      rw [if_neg c25] at H
      have c25b0 : ((a0_3.size : Int) == 0) = false := beq_eq_false_iff_ne.mpr c25
      have c25b1 : ((a0_3.size : Int) != 0) = true := bne_iff_ne.mpr c25
      (first | rw [c25b0] | (simp only [i64_w, i32_w]; rw [c25b0]) | skip)
      have H' := Am H
      clear H
      go_wp2
      go_meet
      case rel => exact ⟨_, (a0_1), (a0_2), H', ⟨by have := HJ3.out; first | omega | exact Nat.le_refl _⟩, ⟨by (with_reducible repeat (first | refine bn ?_ _ | refine bd ?_ | refine ba ?_ _)); exact BK229.out⟩, ⟨by (with_reducible repeat (first | refine bn ?_ _ | refine bd ?_ | refine ba ?_ _)); exact BK230.out⟩, ⟨by (with_reducible repeat (first | refine bn ?_ _ | refine bd ?_ | refine ba ?_ _)); exact BK231.out⟩, ⟨by repeat (first | (with_reducible first | exact HB.out | apply bl | apply pN | apply b1 | refine bs ?_ GE229.out | refine bs ?_ GE230.out | refine bs ?_ GE231.out) | exact HB.out | exact HBo.out)⟩⟩
    case rest =>
     clear HC21
     try clear c1
     try clear c2
     try clear p2
     try clear c9
     try clear c10
     try clear c10b0
     try clear c10b1
     try clear c11
     try clear c12
     try clear c14
     try clear c15
     try clear c17
     try clear c18
     try clear c19
     try clear c20
     try clear c22
     try clear c23
     try clear c25
     try clear c25b0
     try clear c25b1
     try clear c26
     try clear c27
     try clear hcz13_0
     try clear hcz13_1
     try clear hcz13_2
     try clear hcz13_3
     try clear hcz16_0
     try clear hcz16_1
     try clear hcz16_2
     try clear hcz16_3
     try clear hcz20_0
     try clear hcz20_1
     try clear hcz20_2
     try clear hcz20_3
     try clear hcz24_0
     try clear hcz24_1
     try clear hcz24_2
     try clear hcz24_3
     try clear hcz28_0
     try clear hcz28_1
     try clear hcz28_2
     try clear hcz28_3
     try clear hfz13_0
     try clear hfz13_1
     try clear hfz13_2
     try clear hfz13_3
     try clear hfz16_0
     try clear hfz16_1
     try clear hfz16_2
     try clear hfz16_3
     try clear hfz20_0
     try clear hfz20_1
     try clear hfz20_2
     try clear hfz20_3
     try clear hfz24_0
     try clear hfz24_1
     try clear hfz24_2
     try clear hfz24_3
     try clear hfz28_0
     try clear hfz28_1
     try clear hfz28_2
     try clear hfz28_3
     try clear p2
     obtain ⟨kq, x230001_20, x230002_20, HA, HJ20, BK229, BK230, BK231, HB⟩ := hcut
     cases kq with
     | zero => exact absurd HA.out (by simp [shuttlecockref19_Put.j1])
     | succ kj20 =>
      have H := HA.out
      clear HA
      simp only [shuttlecockref19_Put.j1] at H
      replace H := ob H
      obtain ⟨t233, A290, H⟩ := H
      replace H : (if t233 = true then ((shuttlecockref04_Encode.f kj20 a2_0 (wrap64 (a1 - x230002_20)) l2_2 a2_3).bind fun t234 => (if a0_3.size + t234.size ≤ 9223372036854775807 then (some (a0_0, x230001_20, a1, a0_3 ++ t234, true)) else (none))) else (some (0, 0, 0, (⟨#[]⟩ : ByteArray), false))) = some (r1, r2, r3, r4, r5) := H
      have A29 := Am A290
      clear A290
      by_cases c30 : t233 = true
      ·
       subst c30
       have H1 : ((shuttlecockref04_Encode.f kj20 a2_0 (wrap64 (a1 - x230002_20)) l2_2 a2_3).bind fun t234 => (if a0_3.size + t234.size ≤ 9223372036854775807 then (some (a0_0, x230001_20, a1, a0_3 ++ t234, true)) else (none))) = some (r1, r2, r3, r4, r5) := by rw [if_pos rfl] at H; exact H
       clear H
       have H := H1
       clear H1
       replace H := ob H
       obtain ⟨t234, A310, H⟩ := H
       replace H : (if a0_3.size + t234.size ≤ 9223372036854775807 then (some (a0_0, x230001_20, a1, a0_3 ++ t234, true)) else (none)) = some (r1, r2, r3, r4, r5) := H
       have A31 := Am A310
       clear A310
       by_cases c32 : a0_3.size + t234.size ≤ 9223372036854775807
       ·
        rw [if_pos c32] at H
        have c32b0 := eq_true c32
        have c32b1 : decide (a0_3.size + t234.size ≤ 9223372036854775807) = true := decide_eq_true c32
        try have c32b2 : (9223372036854775807 < a0_3.size + t234.size) = False := eq_false (Nat.not_lt.2 c32)
        simp only [Option.some.injEq, Prod.mk.injEq] at H
        obtain ⟨rfl, rfl, rfl, rfl, rfl⟩ := H
        have hnb33 := NB229_230.out
        have hnc33 := NB230_229.out
        have hnb34 := NB229_231.out
        have hnc34 := NB231_229.out
        have hcz35_0 : wc.cell? ⟨gb229, 0, none⟩ = some (.int .i64 a0_0) := (bc BK229.out 0).trans rfl
        have hcz35_1 : wc.cell? ⟨gb229, 1, none⟩ = some (.int .i64 x230001_20) := (bc BK229.out 1).trans rfl
        have hcz35_2 : wc.cell? ⟨gb229, 2, none⟩ = some (.int .i64 x230002_20) := (bc BK229.out 2).trans rfl
        have hcz35_3 : wc.cell? ⟨gb229, 3, none⟩ = some (.string a0_3) := (bc BK229.out 3).trans rfl
        have hfz35_0 := bf BK229.out 0
        have hfz35_1 := bf BK229.out 1
        have hfz35_2 := bf BK229.out 2
        have hfz35_3 := bf BK229.out 3
        have hnb36 := NB230_231.out
        have hnc36 := NB231_230.out
        have hcz37_0 : wc.cell? ⟨gb230, 0, none⟩ = some (.int .i64 a2_0) := (bc BK230.out 0).trans rfl
        have hcz37_1 : wc.cell? ⟨gb230, 1, none⟩ = some (.int .i64 a2_1) := (bc BK230.out 1).trans rfl
        have hcz37_2 : wc.cell? ⟨gb230, 2, none⟩ = some (.slice A2_2 l2_2.length c2_2) := (bc BK230.out 2).trans rfl
        have hcz37_3 : wc.cell? ⟨gb230, 3, none⟩ = some (.string a2_3) := (bc BK230.out 3).trans rfl
        have hfz37_0 := bf BK230.out 0
        have hfz37_1 := bf BK230.out 1
        have hfz37_2 := bf BK230.out 2
        have hfz37_3 := bf BK230.out 3
        try go_wp2_with (first | ((with_reducible refine gate_callee (f := 21) rfl ?_); refine goesL_ (some 38) rfl rfl Try.func21 (by kernel_rfl) rfl #[.agg #[.int .i64 a2_0, .int .i64 (wrap64 (a1 - x230002_20)), .slice A2_2 l2_2.length c2_2, .string a2_3]] rfl (by (try simp only [List.map_toArray, List.map_cons, List.map_nil]); first | done | rfl | (simp only [List.length_drop, List.length_take]; rfl)) ?_; (with_reducible refine (shuttlecockref04_May.calls kj20 a2_0 (wrap64 (a1 - x230002_20)) _ _ l2_2 a2_3 true _ ?side1 ?side2 A29.out).mono ?_); (case side1 => exact Kd.C_below HR2_2.out (by repeat (first | (with_reducible first | exact HB.out | apply bl | apply pN | apply b1 | refine bs ?_ GE229.out | refine bs ?_ GE230.out | refine bs ?_ GE231.out) | exact HB.out | exact HBo.out))); (case side2 => exact HC2_2.out); rintro e w38 ⟨rfl, hb⟩; refine ⟨_, rfl, ?_⟩; have n0_ := Am (blk_below (g := gb229) (o := .cells #[.int .i64 a0_0, .int .i64 x230001_20, .int .i64 x230002_20, .string a0_3] 23 (0, 0)) (by (with_reducible repeat (first | refine bn ?_ _ | refine bd ?_ | refine ba ?_ _)); refine blk_far ?_ NB229_230.out _; (with_reducible repeat (first | refine bn ?_ _ | refine bd ?_ | refine ba ?_ _)); exact BK229.out) hb); have n1_ := Am (blk_below (g := gb230) (o := .cells #[.int .i64 a2_0, .int .i64 (wrap64 (a1 - x230002_20)), .slice A2_2 l2_2.length c2_2, .string a2_3] 28 (0, 0)) (by (with_reducible repeat (first | refine bn ?_ _ | refine bd ?_ | refine ba ?_ _)); refine blk_put (cs := #[.int .i64 a2_0, .int .i64 a2_1, .slice A2_2 l2_2.length c2_2, .string a2_3]) ?_ 1 _ rfl; (with_reducible repeat (first | refine bn ?_ _ | refine bd ?_ | refine ba ?_ _)); exact BK230.out) hb); have n2_ := Am (blk_below (g := gb231) (o := .cells #[.int .i64 0, .int .i64 0, .int .i64 0, .string (⟨#[]⟩ : ByteArray)] 23 (0, 0)) (by (with_reducible repeat (first | refine bn ?_ _ | refine bd ?_ | refine ba ?_ _)); refine blk_far ?_ NB231_230.out _; (with_reducible repeat (first | refine bn ?_ _ | refine bd ?_ | refine ba ?_ _)); exact BK231.out) hb); have n3_ := Am (below_step (by repeat (first | (with_reducible first | exact HB.out | apply bl | apply pN | apply b1 | refine bs ?_ GE229.out | refine bs ?_ GE230.out | refine bs ?_ GE231.out) | exact HB.out | exact HBo.out)) hb); clear BK229; clear BK230; clear BK231; clear HB; have BK229 := n0_; have BK230 := n1_; have BK231 := n2_; have HB := n3_; clear n0_ n1_ n2_ n3_; (try clear hb); (try clear hb2); (try clear hk); (try clear hi)))
        have n0_ := Am (bd BK229.out)
        have n1_ := Am (bd BK230.out)
        have n2_ := Am (bd BK231.out)
        have n3_ := Am (b1 HB.out)
        clear BK229
        clear BK230
        clear BK231
        clear HB
        have BK229 := n0_
        have BK230 := n1_
        have BK231 := n2_
        have HB := n3_
        clear n0_ n1_ n2_ n3_
        refine start_ (n := 7) (S := fun w' => w'.cell? ⟨gb229, 0, none⟩ = some (.int .i64 a0_0) ∧ w'.cell? ⟨gb229, 1, none⟩ = some (.int .i64 x230001_20) ∧ w'.cell? ⟨gb229, 2, none⟩ = some (.int .i64 x230002_20) ∧ w'.cell? ⟨gb229, 3, none⟩ = some (.string a0_3) ∧ w'.cell? ⟨gb230, 0, none⟩ = some (.int .i64 a2_0) ∧ w'.cell? ⟨gb230, 1, none⟩ = some (.int .i64 (wrap64 (a1 - x230002_20))) ∧ w'.cell? ⟨gb230, 2, none⟩ = some (.slice A2_2 l2_2.length c2_2) ∧ w'.cell? ⟨gb230, 3, none⟩ = some (.string a2_3)) (ds := [6]) q11_0 (by kernel_rfl) rfl rfl ⟨(bc BK229.out 0).trans rfl, (bc BK229.out 1).trans rfl, (bc BK229.out 2).trans rfl, (bc BK229.out 3).trans rfl, (bc BK230.out 0).trans rfl, (bc BK230.out 1).trans rfl, (bc BK230.out 2).trans rfl, (bc BK230.out 3).trans rfl⟩ (fun hHeld => ?_)
        generalize w38.drew = w39 at BK229 BK230 BK231 HB hHeld ⊢
        refine pure_ (i := 0) (N := some 41) (v := ?_) (a' := ?_) q11_1 rfl rfl (by kernel_rfl) (fun _ _ _ h => h) (Or.inl ⟨by rfl, ?_⟩) ?_ ?_
        rotate_left
        ·
         intro w'
         go_simp
         with_reducible rfl
        rotate_left
        ·
         simp only [Act.put, sI, sZ, sS, i64_w, i32_w]
         rfl
        refine take_ (i := 1) (N := some 42) (v := ?_) (a' := ?_) q11_2 rfl rfl (by kernel_rfl) (fun _ _ _ h => h) (Or.inl ⟨by rfl, ?_⟩) hHeld ?_ ?_
        rotate_left
        ·
         rintro w' ⟨s0, s1, s2, s3, s4, s5, s6, s7⟩
         go_simp
         with_reducible rfl
        rotate_left
        ·
         simp only [Act.put, sI, sZ, sS, i64_w, i32_w]
         rfl
        refine take_ (i := 2) (N := some 43) (v := ?_) (a' := ?_) q11_3 rfl rfl (by kernel_rfl) (fun _ _ _ h => h) (Or.inl ⟨by rfl, ?_⟩) hHeld ?_ ?_
        rotate_left
        ·
         rintro w' ⟨s0, s1, s2, s3, s4, s5, s6, s7⟩
         go_simp
         with_reducible rfl
        rotate_left
        ·
         simp only [Act.put, sI, sZ, sS, i64_w, i32_w]
         rfl
        refine one_ (i := 3) (N := some 44) q11_4 rfl rfl (by kernel_rfl) (by decide) (fun K hK => ?_)
        refine goes_ Try.func22 (by kernel_rfl) rfl #[.agg #[.int .i64 a2_0, .int .i64 (wrap64 (a1 - x230002_20)), .slice A2_2 l2_2.length c2_2, .string a2_3]] (by rfl) rfl rfl (by (try simp only [List.map_toArray, List.map_cons, List.map_nil]); first | done | rfl | (simp only [List.length_drop, List.length_take]; rfl)) ?_
        with_reducible refine (shuttlecockref04_Encode.calls kj20 a2_0 (wrap64 (a1 - x230002_20)) _ _ l2_2 a2_3 t234 _ ?side1 ?side2 A31.out).mono ?_
        (case side1 => repeat (first | exact (Kd.C_below HR2_2.out HB.out) | (with_reducible refine Kd.C_alloc ?_ _) | (with_reducible refine Kd.C_drewN ?_ _) | (with_reducible refine Kd.C_drew ?_)))
        (case side2 => exact HC2_2.out)
        rintro e w40 ⟨rfl, hb⟩
        refine ⟨_, rfl, ?_⟩
        have n0_ := Am (blk_below (g := gb229) (o := .cells #[.int .i64 a0_0, .int .i64 x230001_20, .int .i64 x230002_20, .string a0_3] 23 (0, 0)) (by (with_reducible repeat (first | refine bn ?_ _ | refine bd ?_ | refine ba ?_ _)); exact BK229.out) hb)
        have n1_ := Am (blk_below (g := gb230) (o := .cells #[.int .i64 a2_0, .int .i64 (wrap64 (a1 - x230002_20)), .slice A2_2 l2_2.length c2_2, .string a2_3] 28 (0, 0)) (by (with_reducible repeat (first | refine bn ?_ _ | refine bd ?_ | refine ba ?_ _)); exact BK230.out) hb)
        have n2_ := Am (blk_below (g := gb231) (o := .cells #[.int .i64 0, .int .i64 0, .int .i64 0, .string (⟨#[]⟩ : ByteArray)] 23 (0, 0)) (by (with_reducible repeat (first | refine bn ?_ _ | refine bd ?_ | refine ba ?_ _)); exact BK231.out) hb)
        have n3_ := Am (below_step (by repeat (first | (with_reducible first | exact HB.out | apply bl | apply pN | apply b1 | refine bs ?_ GE229.out | refine bs ?_ GE230.out | refine bs ?_ GE231.out) | exact HB.out | exact HBo.out)) hb)
        clear BK229
        clear BK230
        clear BK231
        clear HB
        have BK229 := n0_
        have BK230 := n1_
        have BK231 := n2_
        have HB := n3_
        clear n0_ n1_ n2_ n3_
        (try clear hb)
        (try clear hb2)
        (try clear hk)
        (try clear hi)
        refine hK.out _ _ ⟨(bc BK229.out 0).trans rfl, (bc BK229.out 1).trans rfl, (bc BK229.out 2).trans rfl, (bc BK229.out 3).trans rfl, (bc BK230.out 0).trans rfl, (bc BK230.out 1).trans rfl, (bc BK230.out 2).trans rfl, (bc BK230.out 3).trans rfl⟩ (fun hHeld => ?_)
        clear hK K
        refine norm_ (a' := ?_) ?_ ?_
        rotate_left
        ·
         show Act.put _ (some 44) _ = _
         simp only [Act.put, sI, sZ, sS, i64_w, i32_w]
         rfl
        refine pure_ (i := 4) (N := some 45) (v := ?_) (a' := ?_) q11_5 rfl rfl (by kernel_rfl) (fun _ _ _ h => h) (Or.inl ⟨by rfl, ?_⟩) ?_ ?_
        rotate_left
        ·
         intro w'
         go_simp
         with_reducible rfl
        rotate_left
        ·
         simp only [Act.put, sI, sZ, sS, i64_w, i32_w]
         rfl
        refine pure_ (i := 5) (N := some 46) (v := ?_) (a' := ?_) q11_6 rfl rfl (by kernel_rfl) (fun _ _ _ h => h) (Or.inl ⟨by rfl, ?_⟩) ?_ ?_
        rotate_left
        ·
         intro w'
         go_simp
         with_reducible rfl
        rotate_left
        ·
         simp only [Act.put, sI, sZ, sS, i64_w, i32_w]
         rfl
        refine last_ (i := 6) (N := none) q11_7 rfl rfl (by kernel_rfl) (by decide) (fun K hK => ?_)
        have hs41 : w40.cell? ⟨gb229, 3, none⟩ = some (.string a0_3) := (bc BK229.out 3).trans rfl
        have hfs41 := bf BK229.out 3
        have hns41_1 := NB230_229.out
        have hns41_2 := NB231_229.out
        have hms41_1 := NB229_230.out
        have hms41_2 := NB229_231.out
        refine skip_ (w1 := ?_) (by rfl) rfl ?_ ?_
        rotate_left
        ·
         go_simp
         rfl
        refine hK.out _ _ ?_
        clear hK K
        refine done_ (by kernel_rfl) ?_
        have hcz42_0 : w40.cell? ⟨gb229, 0, none⟩ = some (.int .i64 a0_0) := (bc BK229.out 0).trans rfl
        have hcz42_1 : w40.cell? ⟨gb229, 1, none⟩ = some (.int .i64 x230001_20) := (bc BK229.out 1).trans rfl
        have hcz42_2 : w40.cell? ⟨gb229, 2, none⟩ = some (.int .i64 x230002_20) := (bc BK229.out 2).trans rfl
        have hcz42_3 : w40.cell? ⟨gb229, 3, none⟩ = some (.string a0_3) := (bc BK229.out 3).trans rfl
        have hfz42_0 := bf BK229.out 0
        have hfz42_1 := bf BK229.out 1
        have hfz42_2 := bf BK229.out 2
        have hfz42_3 := bf BK229.out 3
        have hcz43_0 : w40.cell? ⟨gb231, 0, none⟩ = some (.int .i64 0) := (bc BK231.out 0).trans rfl
        have hcz43_1 : w40.cell? ⟨gb231, 1, none⟩ = some (.int .i64 0) := (bc BK231.out 1).trans rfl
        have hcz43_2 : w40.cell? ⟨gb231, 2, none⟩ = some (.int .i64 0) := (bc BK231.out 2).trans rfl
        have hcz43_3 : w40.cell? ⟨gb231, 3, none⟩ = some (.string (⟨#[]⟩ : ByteArray)) := (bc BK231.out 3).trans rfl
        have hfz43_0 := bf BK231.out 0
        have hfz43_1 := bf BK231.out 1
        have hfz43_2 := bf BK231.out 2
        have hfz43_3 := bf BK231.out 3
        try go_wp2
        refine bodyPost_ret (results_ct rfl _ _ gb231 23 #[.int .i64 a0_0, .int .i64 x230001_20, .int .i64 a1, .string (a0_3 ++ t234)] (0, 0) _ rfl (by (with_reducible repeat (first | refine bn ?_ _ | refine bd ?_ | refine ba ?_ _)); refine blk_put (cs := #[.int .i64 a0_0, .int .i64 x230001_20, .int .i64 a1, .string (⟨#[]⟩ : ByteArray)]) ?_ 3 _ rfl; (with_reducible repeat (first | refine bn ?_ _ | refine bd ?_ | refine ba ?_ _)); refine blk_put (cs := #[.int .i64 a0_0, .int .i64 x230001_20, .int .i64 0, .string (⟨#[]⟩ : ByteArray)]) ?_ 2 _ rfl; (with_reducible repeat (first | refine bn ?_ _ | refine bd ?_ | refine ba ?_ _)); refine blk_put (cs := #[.int .i64 a0_0, .int .i64 0, .int .i64 0, .string (⟨#[]⟩ : ByteArray)]) ?_ 1 _ rfl; (with_reducible repeat (first | refine bn ?_ _ | refine bd ?_ | refine ba ?_ _)); refine blk_put (cs := #[.int .i64 0, .int .i64 0, .int .i64 0, .string (⟨#[]⟩ : ByteArray)]) ?_ 0 _ rfl; (with_reducible repeat (first | refine bn ?_ _ | refine bd ?_ | refine ba ?_ _)); refine blk_far ?_ NB231_229.out _; (with_reducible repeat (first | refine bn ?_ _ | refine bd ?_ | refine ba ?_ _)); refine blk_far ?_ NB231_229.out _; (with_reducible repeat (first | refine bn ?_ _ | refine bd ?_ | refine ba ?_ _)); exact BK231.out) Try.underlying23 rfl (by kernel_rfl)) rfl ?_
        exact ⟨by first | rfl | (simp [errW_none, errW_some] <;> rfl) | (simp [*, errW_none, errW_some] <;> rfl) | (simp [Aid.ne_nil, Aid.eq_nil, errW_none, errW_some]; done), by repeat (first | (with_reducible first | exact HB.out | apply bl | apply pN | apply b1 | refine bs ?_ GE229.out | refine bs ?_ GE230.out | refine bs ?_ GE231.out) | exact HB.out | exact HBo.out)⟩
       ·
        rw [if_neg c32] at H
        exact absurd H (by simp)
      ·
       replace c30 := Bool.eq_false_iff.mpr c30
       subst c30
       have H1 : (some (0, 0, 0, (⟨#[]⟩ : ByteArray), false)) = some (r1, r2, r3, r4, r5) := by rw [if_neg (show ¬ (false = true) by decide)] at H; exact H
       clear H
       have H := H1
       clear H1
       simp only [Option.some.injEq, Prod.mk.injEq] at H
       obtain ⟨rfl, rfl, rfl, rfl, rfl⟩ := H
       have hnb44 := NB229_230.out
       have hnc44 := NB230_229.out
       have hnb45 := NB229_231.out
       have hnc45 := NB231_229.out
       have hcz46_0 : wc.cell? ⟨gb229, 0, none⟩ = some (.int .i64 a0_0) := (bc BK229.out 0).trans rfl
       have hcz46_1 : wc.cell? ⟨gb229, 1, none⟩ = some (.int .i64 x230001_20) := (bc BK229.out 1).trans rfl
       have hcz46_2 : wc.cell? ⟨gb229, 2, none⟩ = some (.int .i64 x230002_20) := (bc BK229.out 2).trans rfl
       have hcz46_3 : wc.cell? ⟨gb229, 3, none⟩ = some (.string a0_3) := (bc BK229.out 3).trans rfl
       have hfz46_0 := bf BK229.out 0
       have hfz46_1 := bf BK229.out 1
       have hfz46_2 := bf BK229.out 2
       have hfz46_3 := bf BK229.out 3
       have hnb47 := NB230_231.out
       have hnc47 := NB231_230.out
       have hcz48_0 : wc.cell? ⟨gb230, 0, none⟩ = some (.int .i64 a2_0) := (bc BK230.out 0).trans rfl
       have hcz48_1 : wc.cell? ⟨gb230, 1, none⟩ = some (.int .i64 a2_1) := (bc BK230.out 1).trans rfl
       have hcz48_2 : wc.cell? ⟨gb230, 2, none⟩ = some (.slice A2_2 l2_2.length c2_2) := (bc BK230.out 2).trans rfl
       have hcz48_3 : wc.cell? ⟨gb230, 3, none⟩ = some (.string a2_3) := (bc BK230.out 3).trans rfl
       have hfz48_0 := bf BK230.out 0
       have hfz48_1 := bf BK230.out 1
       have hfz48_2 := bf BK230.out 2
       have hfz48_3 := bf BK230.out 3
       go_wp2_with (first | ((with_reducible refine gate_callee (f := 21) rfl ?_); refine goesL_ (some 38) rfl rfl Try.func21 (by kernel_rfl) rfl #[.agg #[.int .i64 a2_0, .int .i64 (wrap64 (a1 - x230002_20)), .slice A2_2 l2_2.length c2_2, .string a2_3]] rfl (by (try simp only [List.map_toArray, List.map_cons, List.map_nil]); first | done | rfl | (simp only [List.length_drop, List.length_take]; rfl)) ?_; (with_reducible refine (shuttlecockref04_May.calls kj20 a2_0 (wrap64 (a1 - x230002_20)) _ _ l2_2 a2_3 false _ ?side1 ?side2 A29.out).mono ?_); (case side1 => exact Kd.C_below HR2_2.out (by repeat (first | (with_reducible first | exact HB.out | apply bl | apply pN | apply b1 | refine bs ?_ GE229.out | refine bs ?_ GE230.out | refine bs ?_ GE231.out) | exact HB.out | exact HBo.out))); (case side2 => exact HC2_2.out); rintro e w49 ⟨rfl, hb⟩; refine ⟨_, rfl, ?_⟩; have n0_ := Am (blk_below (g := gb229) (o := .cells #[.int .i64 a0_0, .int .i64 x230001_20, .int .i64 x230002_20, .string a0_3] 23 (0, 0)) (by (with_reducible repeat (first | refine bn ?_ _ | refine bd ?_ | refine ba ?_ _)); refine blk_far ?_ NB229_230.out _; (with_reducible repeat (first | refine bn ?_ _ | refine bd ?_ | refine ba ?_ _)); exact BK229.out) hb); have n1_ := Am (blk_below (g := gb230) (o := .cells #[.int .i64 a2_0, .int .i64 (wrap64 (a1 - x230002_20)), .slice A2_2 l2_2.length c2_2, .string a2_3] 28 (0, 0)) (by (with_reducible repeat (first | refine bn ?_ _ | refine bd ?_ | refine ba ?_ _)); refine blk_put (cs := #[.int .i64 a2_0, .int .i64 a2_1, .slice A2_2 l2_2.length c2_2, .string a2_3]) ?_ 1 _ rfl; (with_reducible repeat (first | refine bn ?_ _ | refine bd ?_ | refine ba ?_ _)); exact BK230.out) hb); have n2_ := Am (blk_below (g := gb231) (o := .cells #[.int .i64 0, .int .i64 0, .int .i64 0, .string (⟨#[]⟩ : ByteArray)] 23 (0, 0)) (by (with_reducible repeat (first | refine bn ?_ _ | refine bd ?_ | refine ba ?_ _)); refine blk_far ?_ NB231_230.out _; (with_reducible repeat (first | refine bn ?_ _ | refine bd ?_ | refine ba ?_ _)); exact BK231.out) hb); have n3_ := Am (below_step (by repeat (first | (with_reducible first | exact HB.out | apply bl | apply pN | apply b1 | refine bs ?_ GE229.out | refine bs ?_ GE230.out | refine bs ?_ GE231.out) | exact HB.out | exact HBo.out)) hb); clear BK229; clear BK230; clear BK231; clear HB; have BK229 := n0_; have BK230 := n1_; have BK231 := n2_; have HB := n3_; clear n0_ n1_ n2_ n3_; (try clear hb); (try clear hb2); (try clear hk); (try clear hi); have hcz50_0 : w49.cell? ⟨gb231, 0, none⟩ = some (.int .i64 0) := (bc BK231.out 0).trans rfl; have hcz50_1 : w49.cell? ⟨gb231, 1, none⟩ = some (.int .i64 0) := (bc BK231.out 1).trans rfl; have hcz50_2 : w49.cell? ⟨gb231, 2, none⟩ = some (.int .i64 0) := (bc BK231.out 2).trans rfl; have hcz50_3 : w49.cell? ⟨gb231, 3, none⟩ = some (.string (⟨#[]⟩ : ByteArray)) := (bc BK231.out 3).trans rfl; have hfz50_0 := bf BK231.out 0; have hfz50_1 := bf BK231.out 1; have hfz50_2 := bf BK231.out 2; have hfz50_3 := bf BK231.out 3))
       refine bodyPost_ret (results_ct rfl _ _ gb231 23 #[.int .i64 0, .int .i64 0, .int .i64 0, .string (⟨#[]⟩ : ByteArray)] (0, 0) _ rfl (by (with_reducible repeat (first | refine bn ?_ _ | refine bd ?_ | refine ba ?_ _)); refine blk_put (cs := #[.int .i64 0, .int .i64 0, .int .i64 0, .string (⟨#[]⟩ : ByteArray)]) ?_ 3 _ rfl; (with_reducible repeat (first | refine bn ?_ _ | refine bd ?_ | refine ba ?_ _)); refine blk_put (cs := #[.int .i64 0, .int .i64 0, .int .i64 0, .string (⟨#[]⟩ : ByteArray)]) ?_ 2 _ rfl; (with_reducible repeat (first | refine bn ?_ _ | refine bd ?_ | refine ba ?_ _)); refine blk_put (cs := #[.int .i64 0, .int .i64 0, .int .i64 0, .string (⟨#[]⟩ : ByteArray)]) ?_ 1 _ rfl; (with_reducible repeat (first | refine bn ?_ _ | refine bd ?_ | refine ba ?_ _)); refine blk_put (cs := #[.int .i64 0, .int .i64 0, .int .i64 0, .string (⟨#[]⟩ : ByteArray)]) ?_ 0 _ rfl; (with_reducible repeat (first | refine bn ?_ _ | refine bd ?_ | refine ba ?_ _)); exact BK231.out) Try.underlying23 rfl (by kernel_rfl)) rfl ?_
       exact ⟨by first | rfl | (simp [errW_none, errW_some] <;> rfl) | (simp [*, errW_none, errW_some] <;> rfl) | (simp [Aid.ne_nil, Aid.eq_nil, errW_none, errW_some]; done), by repeat (first | (with_reducible first | exact HB.out | apply bl | apply pN | apply b1 | refine bs ?_ GE229.out | refine bs ?_ GE230.out | refine bs ?_ GE231.out) | exact HB.out | exact HBo.out)⟩

end Go.Proofs.Ytgpnkgmghnmmjaa.Q
