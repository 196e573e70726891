-- printed by a program of this session (NOTES: hprint); not the kit's print
-- minified
-- halved
import Derived.Test.YtgpnkgmghnmmjaaAl
import Derived.Test.YtgpnkgmghnmmjaaQx0
import Derived.Test.YtgpnkgmghnmmjaaQx4
import Derived.Test.YtgpnkgmghnmmjaaQx6
namespace Go.Proofs.Ytgpnkgmghnmmjaa.Q
open Go.RowKit Go.Proofs.YtgpnkgmghnmmjaaW.PrintWords Go.Proofs.YtgpnkgmghnmmjaaW.PrintLast Go.Proofs.YtgpnkgmghnmmjaaW.PrintMore
attribute [local go_sem] max2_int min2_int max_two min_two max_three min_three max_four min_four   -- for this text's walks alone
set_option linter.unusedVariables false
set_option linter.unusedSimpArgs false

def q7_0 : Array Bool := let o := true; let z := false; #[z,z,z,z,z,z,z]
def q7_1 : Array Bool := let o := true; let z := false; #[o,z,z,z,z,z,z]
def q7_2 : Array Bool := let o := true; let z := false; #[o,o,z,z,z,z,z]
def q7_3 : Array Bool := let o := true; let z := false; #[o,o,o,z,z,z,z]
def q7_4 : Array Bool := let o := true; let z := false; #[o,o,o,o,z,z,z]
def q7_5 : Array Bool := let o := true; let z := false; #[o,o,o,o,o,z,z]
def q7_6 : Array Bool := let o := true; let z := false; #[o,o,o,o,o,o,z]
def q7_7 : Array Bool := let o := true; let z := false; #[o,o,o,o,o,o,o]
/-! ### buf_Put: function 10 -/
mutual
def buf_Put.j0 : Nat → Int → Bool → Int → Int → Int → ByteArray → Int → Int → List Int → ByteArray → Option (Int × Int × Int × ByteArray × Bool)
 | 0, _, _, _, _, _, _, _, _, _, _ => none
 | k + 1, x1, x13, x120000, x120001, x120002, x120003, x121000, x121001, x121002, x121003 => if x13 = true then (some (0, 0, 0, (⟨#[]⟩ : ByteArray), false)) else (if x120003.toList = ([] : List UInt8) then (buf_Put.j1 k x1 x120000 x1 x1 x120003 x121000 x121001 x121002 x121003) else (buf_Put.j1 k x1 x120000 x120001 x120002 x120003 x121000 x121001 x121002 x121003))
def buf_Put.j1 : Nat → Int → Int → Int → Int → ByteArray → Int → Int → List Int → ByteArray → Option (Int × Int × Int × ByteArray × Bool)
 | 0, _, _, _, _, _, _, _, _, _ => none
 | k + 1, x1, x120000, x120001, x120002, x120003, x121000, x121001, x121002, x121003 => if x1 < x120002 then (some (0, 0, 0, (⟨#[]⟩ : ByteArray), false)) else ((event_May.f x121000 (wrap64 (x1 - x120002)) x121002 x121003).bind fun t122 => (if t122 = true then ((event_Encode.f k x121000 (wrap64 (x1 - x120002)) x121002 x121003).bind fun t123 => (if x120003.size + t123.size ≤ 9223372036854775807 then (some (x120000, x120001, x1, x120003 ++ t123, true)) else (none))) else (some (0, 0, 0, (⟨#[]⟩ : ByteArray), false))))
end
def buf_Put.f (k : Nat) (a0_0 : Int) (a0_1 : Int) (a0_2 : Int) (a0_3 : ByteArray) (a1 : Int) (a2_0 : Int) (a2_1 : Int) (l2_2 : List Int) (a2_3 : ByteArray) : Option (Int × Int × Int × ByteArray × Bool) := if a1 < 0 then (buf_Put.j0 k a1 true a0_0 a0_1 a0_2 a0_3 a2_0 a2_1 l2_2 a2_3) else (buf_Put.j0 k a1 (decide (a1 ≥ 4611686018427387904)) a0_0 a0_1 a0_2 a0_3 a2_0 a2_1 l2_2 a2_3)
theorem buf_Put.mono_l : ∀ k, (∀ y0 y1 y2 y3 y4 y5 y6 y7 y8 y9, LeO (buf_Put.j0 k y0 y1 y2 y3 y4 y5 y6 y7 y8 y9) (buf_Put.j0 (k + 1) y0 y1 y2 y3 y4 y5 y6 y7 y8 y9)) ∧ (∀ y0 y1 y2 y3 y4 y5 y6 y7 y8, LeO (buf_Put.j1 k y0 y1 y2 y3 y4 y5 y6 y7 y8) (buf_Put.j1 (k + 1) y0 y1 y2 y3 y4 y5 y6 y7 y8))
 | 0 => ⟨fun _ _ _ _ _ _ _ _ _ _ r h => by simp [buf_Put.j0] at h, fun _ _ _ _ _ _ _ _ _ r h => by simp [buf_Put.j1] at h⟩
 | k + 1 => by
  obtain ⟨ih0, ih1⟩ := buf_Put.mono_l k
  refine ⟨?_, ?_⟩
  ·
   intro y0 y1 y2 y3 y4 y5 y6 y7 y8 y9
   unfold buf_Put.j0
   repeat' first
   | (with_reducible exact ih0 _ _ _ _ _ _ _ _ _ _)
   | (with_reducible exact ih1 _ _ _ _ _ _ _ _ _)
   | (with_reducible exact event_Encode.mono _ _ _ _ _)
   | (with_reducible exact LeO.refl _)
   | (with_reducible exact LeO.none _)
   | (with_reducible refine LeO.ite ?_ ?_)
   | (with_reducible refine LeO.bind ?_ (fun _ => ?_))
   | exact ih0 _ _ _ _ _ _ _ _ _ _
   | exact ih1 _ _ _ _ _ _ _ _ _
   | exact event_Encode.mono _ _ _ _ _
   | exact LeO.none _
   | refine LeO.ite ?_ ?_
   | refine LeO.bind ?_ (fun _ => ?_)
  ·
   intro y0 y1 y2 y3 y4 y5 y6 y7 y8
   unfold buf_Put.j1
   repeat' first
   | (with_reducible exact ih0 _ _ _ _ _ _ _ _ _ _)
   | (with_reducible exact ih1 _ _ _ _ _ _ _ _ _)
   | (with_reducible exact event_Encode.mono _ _ _ _ _)
   | (with_reducible exact LeO.refl _)
   | (with_reducible exact LeO.none _)
   | (with_reducible refine LeO.ite ?_ ?_)
   | (with_reducible refine LeO.bind ?_ (fun _ => ?_))
   | exact ih0 _ _ _ _ _ _ _ _ _ _
   | exact ih1 _ _ _ _ _ _ _ _ _
   | exact event_Encode.mono _ _ _ _ _
   | exact LeO.none _
   | refine LeO.ite ?_ ?_
   | refine LeO.bind ?_ (fun _ => ?_)
theorem buf_Put.mono : ∀ a0 a1 a2 a3 a4 a5 a6 a7 a8 k, LeO (buf_Put.f k a0 a1 a2 a3 a4 a5 a6 a7 a8) (buf_Put.f (k + 1) a0 a1 a2 a3 a4 a5 a6 a7 a8) := by
 intro a0 a1 a2 a3 a4 a5 a6 a7 a8 k
 obtain ⟨ih0, ih1⟩ := buf_Put.mono_l k
 unfold buf_Put.f
 repeat' first
   | (with_reducible exact ih0 _ _ _ _ _ _ _ _ _ _)
   | (with_reducible exact ih1 _ _ _ _ _ _ _ _ _)
   | (with_reducible exact event_Encode.mono _ _ _ _ _)
   | (with_reducible exact LeO.refl _)
   | (with_reducible exact LeO.none _)
   | (with_reducible refine LeO.ite ?_ ?_)
   | (with_reducible refine LeO.bind ?_ (fun _ => ?_))
   | exact ih0 _ _ _ _ _ _ _ _ _ _
   | exact ih1 _ _ _ _ _ _ _ _ _
   | exact event_Encode.mono _ _ _ _ _
   | exact LeO.none _
   | refine LeO.ite ?_ ?_
   | refine LeO.bind ?_ (fun _ => ?_)
set_option maxHeartbeats 8000000 in
set_option maxRecDepth 100000 in
theorem buf_Put.calls (k : Nat) (a0_0 : Int) (a0_1 : Int) (a0_2 : Int) (a0_3 : ByteArray) (a1 : Int) (a2_0 : Int) (a2_1 : Int) (A2_2 : Option Addr) (c2_2 : Nat) (l2_2 : List Int) (a2_3 : ByteArray) (r1 : Int) (r2 : Int) (r3 : Int) (r4 : ByteArray) (r5 : Bool) (w : World) (hr2_2 : Kd.C (Kd.int .i64) w A2_2 l2_2.length l2_2) (hc2_2 : l2_2.length ≤ c2_2) (h : buf_Put.f k a0_0 a0_1 a0_2 a0_3 a1 a2_0 a2_1 l2_2 a2_3 = some (r1, r2, r3, r4, r5)) :
  Calls Try.prog 10 #[.agg #[.int .i64 a0_0, .int .i64 a0_1, .int .i64 a0_2, .string a0_3], .int .i64 a1, .agg #[.int .i64 a2_0, .int .i64 a2_1, .slice A2_2 l2_2.length c2_2, .string a2_3]] w fun e w' => e = .returned (.tuple #[.agg #[.int .i64 r1, .int .i64 r2, .int .i64 r3, .string r4], .bool r5]) ∧ Below w.heap.size w w' := by
 have hu23 := Try.underlying23
 have hu28 := Try.underlying28
 have HR2_2 := Am hr2_2
 have HC2_2 := Am hc2_2
 clear hr2_2 hc2_2
 have HB := Am (Below.refl w.heap.size w)
 have H : (if a1 < 0 then (buf_Put.j0 k a1 true a0_0 a0_1 a0_2 a0_3 a2_0 a2_1 l2_2 a2_3) else (buf_Put.j0 k a1 (decide (a1 ≥ 4611686018427387904)) a0_0 a0_1 a0_2 a0_3 a2_0 a2_1 l2_2 a2_3)) = some (r1, r2, r3, r4, r5) := h
 clear h
 have HC4 := Am H
 clear H
 go_enter Try.func10, Try.ntmps10
 go_upto_region 1 with (first | ((with_reducible refine gate_dst (N := 3) rfl ?_); refine box_event ?hg (N := 3) ?hd (cs := #[.int .i64 a0_0, .int .i64 a0_1, .int .i64 a0_2, .string a0_3]) (t := 23) ?hr ?_; (case hd => rfl); (case hg => rfl); (case hr => first | (go_simp; done) | (go_simp; rfl)); intro gb119 hg w5 hbox hb; have n0_ := Am (below_step (by repeat (first | (with_reducible first | exact HB.out | apply bl | apply pN | apply b1) | exact HB.out | exact HBo.out)) hb); have n1_ := Am (hbox); have n2_ := Am ((by rw [hg]; exact (below_size (by repeat (first | (with_reducible first | exact HB.out | apply bl | apply pN | apply b1) | exact HB.out | exact HBo.out))) : w.heap.size ≤ gb119)); have n3_ := Am ((by rw [hg]; exact (below_size (by repeat (first | (with_reducible first | exact HB.out | apply bl | apply pN | apply b1) | exact HB.out | exact HBo.out))) : w.heap.size ≤ gb119)); clear HB; have HB := n0_; have BK119 := n1_; have GW119 := n2_; have GE119 := n3_; clear n0_ n1_ n2_ n3_; clear hb hbox hg) | ((with_reducible refine gate_dst (N := 5) rfl ?_); refine box_event ?hg (N := 5) ?hd (cs := #[.int .i64 a2_0, .int .i64 a2_1, .slice A2_2 l2_2.length c2_2, .string a2_3]) (t := 28) ?hr ?_; (case hd => rfl); (case hg => rfl); (case hr => first | (go_simp; done) | (go_simp; rfl)); intro gb120 hg w6 hbox hb; have n0_ := Am (blk_below (g := gb119) (o := .cells #[.int .i64 a0_0, .int .i64 a0_1, .int .i64 a0_2, .string a0_3] 23 (0, 0)) (by (with_reducible repeat (first | refine bn ?_ _ | refine bd ?_ | refine ba ?_ _)); exact BK119.out) hb); have n1_ := Am (below_step (by repeat (first | (with_reducible first | exact HB.out | apply bl | apply pN | apply b1 | refine bs ?_ GE119.out) | exact HB.out | exact HBo.out)) hb); have n2_ := Am (hbox); have n3_ := Am ((by rw [hg]; exact (below_size (by repeat (first | (with_reducible first | exact HB.out | apply bl | apply pN | apply b1 | refine bs ?_ GE119.out) | exact HB.out | exact HBo.out))) : w.heap.size ≤ gb120)); have n4_ := Am ((by rw [hg]; exact (below_size (by repeat (first | (with_reducible first | exact HB.out | apply bl | apply pN | apply b1 | refine bs ?_ GE119.out) | exact HB.out | exact HBo.out))) : w.heap.size ≤ gb120)); have n5_ := Am ((by rw [hg]; exact Nat.ne_of_lt (blk_lt (g := gb119) (o := .cells #[.int .i64 a0_0, .int .i64 a0_1, .int .i64 a0_2, .string a0_3] 23 (0, 0)) (by (with_reducible repeat (first | refine bn ?_ _ | refine bd ?_ | refine ba ?_ _)); exact BK119.out)) : gb119 ≠ gb120)); have n6_ := Am ((by rw [hg]; exact Nat.ne_of_gt (blk_lt (g := gb119) (o := .cells #[.int .i64 a0_0, .int .i64 a0_1, .int .i64 a0_2, .string a0_3] 23 (0, 0)) (by (with_reducible repeat (first | refine bn ?_ _ | refine bd ?_ | refine ba ?_ _)); exact BK119.out)) : gb120 ≠ gb119)); clear BK119; clear HB; have BK119 := n0_; have HB := n1_; have BK120 := n2_; have GW120 := n3_; have GE120 := n4_; have NB119_120 := n5_; have NB120_119 := n6_; clear n0_ n1_ n2_ n3_ n4_ n5_ n6_; clear hb hbox hg) | ((with_reducible refine gate_dst (N := 6) rfl ?_); refine box_event ?hg (N := 6) ?hd (cs := #[.int .i64 0, .int .i64 0, .int .i64 0, .string (⟨#[]⟩ : ByteArray)]) (t := 23) ?hr ?_; (case hd => rfl); (case hg => rfl); (case hr => first | (go_simp; done) | (go_simp; rfl)); intro gb121 hg w7 hbox hb; have n0_ := Am (blk_below (g := gb119) (o := .cells #[.int .i64 a0_0, .int .i64 a0_1, .int .i64 a0_2, .string a0_3] 23 (0, 0)) (by (with_reducible repeat (first | refine bn ?_ _ | refine bd ?_ | refine ba ?_ _)); exact BK119.out) hb); have n1_ := Am (blk_below (g := gb120) (o := .cells #[.int .i64 a2_0, .int .i64 a2_1, .slice A2_2 l2_2.length c2_2, .string a2_3] 28 (0, 0)) (by (with_reducible repeat (first | refine bn ?_ _ | refine bd ?_ | refine ba ?_ _)); exact BK120.out) hb); have n2_ := Am (below_step (by repeat (first | (with_reducible first | exact HB.out | apply bl | apply pN | apply b1 | refine bs ?_ GE119.out | refine bs ?_ GE120.out) | exact HB.out | exact HBo.out)) hb); have n3_ := Am (hbox); have n4_ := Am ((by rw [hg]; exact (below_size (by repeat (first | (with_reducible first | exact HB.out | apply bl | apply pN | apply b1 | refine bs ?_ GE119.out | refine bs ?_ GE120.out) | exact HB.out | exact HBo.out))) : w.heap.size ≤ gb121)); have n5_ := Am ((by rw [hg]; exact (below_size (by repeat (first | (with_reducible first | exact HB.out | apply bl | apply pN | apply b1 | refine bs ?_ GE119.out | refine bs ?_ GE120.out) | exact HB.out | exact HBo.out))) : w.heap.size ≤ gb121)); have n6_ := Am ((by rw [hg]; exact Nat.ne_of_lt (blk_lt (g := gb119) (o := .cells #[.int .i64 a0_0, .int .i64 a0_1, .int .i64 a0_2, .string a0_3] 23 (0, 0)) (by (with_reducible repeat (first | refine bn ?_ _ | refine bd ?_ | refine ba ?_ _)); exact BK119.out)) : gb119 ≠ gb121)); have n7_ := Am ((by rw [hg]; exact Nat.ne_of_gt (blk_lt (g := gb119) (o := .cells #[.int .i64 a0_0, .int .i64 a0_1, .int .i64 a0_2, .string a0_3] 23 (0, 0)) (by (with_reducible repeat (first | refine bn ?_ _ | refine bd ?_ | refine ba ?_ _)); exact BK119.out)) : gb121 ≠ gb119)); have n8_ := Am ((by rw [hg]; exact Nat.ne_of_lt (blk_lt (g := gb120) (o := .cells #[.int .i64 a2_0, .int .i64 a2_1, .slice A2_2 l2_2.length c2_2, .string a2_3] 28 (0, 0)) (by (with_reducible repeat (first | refine bn ?_ _ | refine bd ?_ | refine ba ?_ _)); exact BK120.out)) : gb120 ≠ gb121)); have n9_ := Am ((by rw [hg]; exact Nat.ne_of_gt (blk_lt (g := gb120) (o := .cells #[.int .i64 a2_0, .int .i64 a2_1, .slice A2_2 l2_2.length c2_2, .string a2_3] 28 (0, 0)) (by (with_reducible repeat (first | refine bn ?_ _ | refine bd ?_ | refine ba ?_ _)); exact BK120.out)) : gb121 ≠ gb120)); clear BK119; clear BK120; clear HB; have BK119 := n0_; have BK120 := n1_; have HB := n2_; have BK121 := n3_; have GW121 := n4_; have GE121 := n5_; have NB119_121 := n6_; have NB121_119 := n7_; have NB120_121 := n8_; have NB121_120 := n9_; clear n0_ n1_ n2_ n3_ n4_ n5_ n6_ n7_ n8_ n9_; clear hb hbox hg))
 (try simp only [Act.put, sI, sZ, sS])
 go_cut [13] (fun v13 wc => ∃ (kq : Nat) (x13_3 : Bool), v13 = .bool x13_3 ∧ Aside0 (buf_Put.j0 kq a1 x13_3 a0_0 a0_1 a0_2 a0_3 a2_0 a2_1 l2_2 a2_3 = some (r1, r2, r3, r4, r5)) ∧ Aside0 (kq ≤ k) ∧ Aside0 (wc.heap[gb119]? = some (.cells #[.int .i64 a0_0, .int .i64 a0_1, .int .i64 a0_2, .string a0_3] 23 (0, 0))) ∧ Aside0 (wc.heap[gb120]? = some (.cells #[.int .i64 a2_0, .int .i64 a2_1, (.slice A2_2 l2_2.length c2_2), .string a2_3] 28 (0, 0))) ∧ Aside0 (wc.heap[gb121]? = some (.cells #[.int .i64 0, .int .i64 0, .int .i64 0, .string (⟨#[]⟩ : ByteArray)] 23 (0, 0))) ∧ Aside0 (Below w.heap.size w wc))
 case first =>
  have H := HC4.out
  clear HC4
  by_cases c8 : a1 < 0
  ·
   rw [if_pos c8] at H
   have c8b0 : decide (a1 < 0) = true := decide_eq_true c8
   clear c8
   (first | rw [c8b0] | (simp only [i64_w, i32_w]; rw [c8b0]) | skip)
   have H' := Am H
   clear H
   go_wp2
   go_meet
   case rel => exact ⟨_, (true), (by first | rfl | (simp; done) | (simp [*]; done)), H', ⟨by first | omega | exact Nat.le_refl _⟩, ⟨by (with_reducible repeat (first | refine bn ?_ _ | refine bd ?_ | refine ba ?_ _)); exact BK119.out⟩, ⟨by (with_reducible repeat (first | refine bn ?_ _ | refine bd ?_ | refine ba ?_ _)); exact BK120.out⟩, ⟨by (with_reducible repeat (first | refine bn ?_ _ | refine bd ?_ | refine ba ?_ _)); exact BK121.out⟩, ⟨by repeat (first | (with_reducible first | exact HB.out | apply bl | apply pN | apply b1 | refine bs ?_ GE119.out | refine bs ?_ GE120.out | refine bs ?_ GE121.out) | exact HB.out | exact HBo.out)⟩⟩
  ·
   rw [if_neg c8] at H
   have c8b0 : decide (a1 < 0) = false := decide_eq_false c8
   clear c8
   (first | rw [c8b0] | (simp only [i64_w, i32_w]; rw [c8b0]) | skip)
   have H' := Am H
   clear H
   go_wp2
   go_meet
   case rel => exact ⟨_, (decide (a1 ≥ 4611686018427387904)), (by first | rfl | (simp; done) | (simp [*]; done)), H', ⟨by first | omega | exact Nat.le_refl _⟩, ⟨by (with_reducible repeat (first | refine bn ?_ _ | refine bd ?_ | refine ba ?_ _)); exact BK119.out⟩, ⟨by (with_reducible repeat (first | refine bn ?_ _ | refine bd ?_ | refine ba ?_ _)); exact BK120.out⟩, ⟨by (with_reducible repeat (first | refine bn ?_ _ | refine bd ?_ | refine ba ?_ _)); exact BK121.out⟩, ⟨by repeat (first | (with_reducible first | exact HB.out | apply bl | apply pN | apply b1 | refine bs ?_ GE119.out | refine bs ?_ GE120.out | refine bs ?_ GE121.out) | exact HB.out | exact HBo.out)⟩⟩
 case rest =>
  clear HC4
  try clear c1
  try clear c2
  try clear p2
  try clear c8
  try clear c8b0
  obtain ⟨kq, x13_3, rfl, HA, HJ3, BK119, BK120, BK121, HB⟩ := hcut
  cases kq with
  | zero => exact absurd HA.out (by simp [buf_Put.j0])
  | succ kj3 =>
   have H := HA.out
   clear HA
   simp only [buf_Put.j0] at H
   by_cases c9 : x13_3 = true
   ·
    subst c9
    have H1 : (some (0, 0, 0, (⟨#[]⟩ : ByteArray), false)) = some (r1, r2, r3, r4, r5) := by rw [if_pos rfl] at H; exact H
    clear H
    have H := H1
    clear H1
    simp only [Option.some.injEq, Prod.mk.injEq] at H
    obtain ⟨rfl, rfl, rfl, rfl, rfl⟩ := H
    have hnb10 := NB121_119.out
    have hnc10 := NB119_121.out
    have hnb11 := NB121_120.out
    have hnc11 := NB120_121.out
    have hcz12_0 : wc.cell? ⟨gb121, 0, none⟩ = some (.int .i64 0) := (bc BK121.out 0).trans rfl
    have hcz12_1 : wc.cell? ⟨gb121, 1, none⟩ = some (.int .i64 0) := (bc BK121.out 1).trans rfl
    have hcz12_2 : wc.cell? ⟨gb121, 2, none⟩ = some (.int .i64 0) := (bc BK121.out 2).trans rfl
    have hcz12_3 : wc.cell? ⟨gb121, 3, none⟩ = some (.string (⟨#[]⟩ : ByteArray)) := (bc BK121.out 3).trans rfl
    have hfz12_0 := bf BK121.out 0
    have hfz12_1 := bf BK121.out 1
    have hfz12_2 := bf BK121.out 2
    have hfz12_3 := bf BK121.out 3
    go_wp2
    refine bodyPost_ret (results_ct rfl _ _ gb121 23 #[.int .i64 0, .int .i64 0, .int .i64 0, .string (⟨#[]⟩ : ByteArray)] (0, 0) _ rfl (by (with_reducible repeat (first | refine bn ?_ _ | refine bd ?_ | refine ba ?_ _)); refine blk_put (cs := #[.int .i64 0, .int .i64 0, .int .i64 0, .string (⟨#[]⟩ : ByteArray)]) ?_ 3 _ rfl; (with_reducible repeat (first | refine bn ?_ _ | refine bd ?_ | refine ba ?_ _)); refine blk_put (cs := #[.int .i64 0, .int .i64 0, .int .i64 0, .string (⟨#[]⟩ : ByteArray)]) ?_ 2 _ rfl; (with_reducible repeat (first | refine bn ?_ _ | refine bd ?_ | refine ba ?_ _)); refine blk_put (cs := #[.int .i64 0, .int .i64 0, .int .i64 0, .string (⟨#[]⟩ : ByteArray)]) ?_ 1 _ rfl; (with_reducible repeat (first | refine bn ?_ _ | refine bd ?_ | refine ba ?_ _)); refine blk_put (cs := #[.int .i64 0, .int .i64 0, .int .i64 0, .string (⟨#[]⟩ : ByteArray)]) ?_ 0 _ rfl; (with_reducible repeat (first | refine bn ?_ _ | refine bd ?_ | refine ba ?_ _)); exact BK121.out) Try.underlying23 rfl (by kernel_rfl)) rfl ?_
    exact ⟨by first | rfl | (simp [errW_none, errW_some] <;> rfl) | (simp [*, errW_none, errW_some] <;> rfl) | (simp [Aid.ne_nil, Aid.eq_nil, errW_none, errW_some]; done), by repeat (first | (with_reducible first | exact HB.out | apply bl | apply pN | apply b1 | refine bs ?_ GE119.out | refine bs ?_ GE120.out | refine bs ?_ GE121.out) | exact HB.out | exact HBo.out)⟩
   ·
    replace c9 := Bool.eq_false_iff.mpr c9
    subst c9
    have H1 : (if a0_3.toList = ([] : List UInt8) then (buf_Put.j1 kj3 a1 a0_0 a1 a1 a0_3 a2_0 a2_1 l2_2 a2_3) else (buf_Put.j1 kj3 a1 a0_0 a0_1 a0_2 a0_3 a2_0 a2_1 l2_2 a2_3)) = some (r1, r2, r3, r4, r5) := by rw [if_neg (show ¬ (false = true) by decide)] at H; exact H
    clear H
    have H := H1
    clear H1
    have HC13 := Am H
    clear H
    have hnb14 := NB119_120.out
    have hnc14 := NB120_119.out
    have hnb15 := NB119_121.out
    have hnc15 := NB121_119.out
    have hcz16_0 : wc.cell? ⟨gb119, 0, none⟩ = some (.int .i64 a0_0) := (bc BK119.out 0).trans rfl
    have hcz16_1 : wc.cell? ⟨gb119, 1, none⟩ = some (.int .i64 a0_1) := (bc BK119.out 1).trans rfl
    have hcz16_2 : wc.cell? ⟨gb119, 2, none⟩ = some (.int .i64 a0_2) := (bc BK119.out 2).trans rfl
    have hcz16_3 : wc.cell? ⟨gb119, 3, none⟩ = some (.string a0_3) := (bc BK119.out 3).trans rfl
    have hfz16_0 := bf BK119.out 0
    have hfz16_1 := bf BK119.out 1
    have hfz16_2 := bf BK119.out 2
    have hfz16_3 := bf BK119.out 3
    go_upto_if 17 with (fail)
    go_cut [] (fun wc => ∃ (kq : Nat) (x120001_12 : Int) (x120002_12 : Int), Aside0 (buf_Put.j1 kq a1 a0_0 x120001_12 x120002_12 a0_3 a2_0 a2_1 l2_2 a2_3 = some (r1, r2, r3, r4, r5)) ∧ Aside0 (kq ≤ kj3) ∧ Aside0 (wc.heap[gb119]? = some (.cells #[.int .i64 a0_0, .int .i64 x120001_12, .int .i64 x120002_12, .string a0_3] 23 (0, 0))) ∧ Aside0 (wc.heap[gb120]? = some (.cells #[.int .i64 a2_0, .int .i64 a2_1, (.slice A2_2 l2_2.length c2_2), .string a2_3] 28 (0, 0))) ∧ Aside0 (wc.heap[gb121]? = some (.cells #[.int .i64 0, .int .i64 0, .int .i64 0, .string (⟨#[]⟩ : ByteArray)] 23 (0, 0))) ∧ Aside0 (Below w.heap.size w wc))
    case first =>
     have H := HC13.out
     clear HC13
     by_cases c17 : a0_3.toList = ([] : List UInt8)
     ·
      rw [if_pos c17] at H
      have c17b0 : (a0_3.toList == ([] : List UInt8)) = true := beq_iff_eq.mpr c17
      try have c17b9 : (a0_3.toList).isEmpty = true := List.isEmpty_iff.2 c17
      have c17b1 : (a0_3.toList != ([] : List UInt8)) = false := bne_eq_false_iff_eq.mpr c17
      clear c17
      (first | rw [c17b0] | rw [c17b9] | (simp only [i64_w, i32_w]; rw [c17b0]) | skip)
      have H' := Am H
      clear H
      have hnb18 := NB119_120.out
      have hnc18 := NB120_119.out
      have hnb19 := NB119_121.out
      have hnc19 := NB121_119.out
      have hcz20_0 : wc.cell? ⟨gb119, 0, none⟩ = some (.int .i64 a0_0) := (bc BK119.out 0).trans rfl
      have hcz20_1 : wc.cell? ⟨gb119, 1, none⟩ = some (.int .i64 a0_1) := (bc BK119.out 1).trans rfl
      have hcz20_2 : wc.cell? ⟨gb119, 2, none⟩ = some (.int .i64 a0_2) := (bc BK119.out 2).trans rfl
      have hcz20_3 : wc.cell? ⟨gb119, 3, none⟩ = some (.string a0_3) := (bc BK119.out 3).trans rfl
      have hfz20_0 := bf BK119.out 0
      have hfz20_1 := bf BK119.out 1
      have hfz20_2 := bf BK119.out 2
      have hfz20_3 := bf BK119.out 3
      go_wp2
      go_meet
      case rel => exact ⟨_, (a1), (a1), H', ⟨by have := HJ3.out; first | omega | exact Nat.le_refl _⟩, ⟨by (with_reducible repeat (first | refine bn ?_ _ | refine bd ?_ | refine ba ?_ _)); refine blk_put (cs := #[.int .i64 a0_0, .int .i64 a1, .int .i64 a0_2, .string a0_3]) ?_ 2 _ rfl; (with_reducible repeat (first | refine bn ?_ _ | refine bd ?_ | refine ba ?_ _)); refine blk_put (cs := #[.int .i64 a0_0, .int .i64 a0_1, .int .i64 a0_2, .string a0_3]) ?_ 1 _ rfl; (with_reducible repeat (first | refine bn ?_ _ | refine bd ?_ | refine ba ?_ _)); exact BK119.out⟩, ⟨by (with_reducible repeat (first | refine bn ?_ _ | refine bd ?_ | refine ba ?_ _)); refine blk_far ?_ NB120_119.out _; (with_reducible repeat (first | refine bn ?_ _ | refine bd ?_ | refine ba ?_ _)); refine blk_far ?_ NB120_119.out _; (with_reducible repeat (first | refine bn ?_ _ | refine bd ?_ | refine ba ?_ _)); exact BK120.out⟩, ⟨by (with_reducible repeat (first | refine bn ?_ _ | refine bd ?_ | refine ba ?_ _)); refine blk_far ?_ NB121_119.out _; (with_reducible repeat (first | refine bn ?_ _ | refine bd ?_ | refine ba ?_ _)); refine blk_far ?_ NB121_119.out _; (with_reducible repeat (first | refine bn ?_ _ | refine bd ?_ | refine ba ?_ _)); exact BK121.out⟩, ⟨by repeat (first | (with_reducible first | exact HB.out | apply bl | apply pN | apply b1 | refine bs ?_ GE119.out | refine bs ?_ GE120.out | refine bs ?_ GE121.out) | exact HB.out | exact HBo.out)⟩⟩
     ·
      rw [if_neg c17] at H
      have c17b0 : (a0_3.toList == ([] : List UInt8)) = false := beq_eq_false_iff_ne.mpr c17
      try have c17b9 : (a0_3.toList).isEmpty = false := (by rw [List.isEmpty_eq_false_iff]; exact c17)
      have c17b1 : (a0_3.toList != ([] : List UInt8)) = true := bne_iff_ne.mpr c17
      (first | rw [c17b0] | rw [c17b9] | (simp only [i64_w, i32_w]; rw [c17b0]) | skip)
      have H' := Am H
      clear H
      go_wp2
      go_meet
      case rel => exact ⟨_, (a0_1), (a0_2), H', ⟨by have := HJ3.out; first | omega | exact Nat.le_refl _⟩, ⟨by (with_reducible repeat (first | refine bn ?_ _ | refine bd ?_ | refine ba ?_ _)); exact BK119.out⟩, ⟨by (with_reducible repeat (first | refine bn ?_ _ | refine bd ?_ | refine ba ?_ _)); exact BK120.out⟩, ⟨by (with_reducible repeat (first | refine bn ?_ _ | refine bd ?_ | refine ba ?_ _)); exact BK121.out⟩, ⟨by repeat (first | (with_reducible first | exact HB.out | apply bl | apply pN | apply b1 | refine bs ?_ GE119.out | refine bs ?_ GE120.out | refine bs ?_ GE121.out) | exact HB.out | exact HBo.out)⟩⟩
    case rest =>
     clear HC13
     try clear c1
     try clear c2
     try clear p2
     try clear c8
     try clear c8b0
     try clear c9
     try clear c10
     try clear c11
     try clear c14
     try clear c15
     try clear c17
     try clear c17b0
     try clear c17b1
     try clear c18
     try clear c19
     try clear hcz12_0
     try clear hcz12_1
     try clear hcz12_2
     try clear hcz12_3
     try clear hcz16_0
     try clear hcz16_1
     try clear hcz16_2
     try clear hcz16_3
     try clear hcz20_0
     try clear hcz20_1
     try clear hcz20_2
     try clear hcz20_3
     try clear hfz12_0
     try clear hfz12_1
     try clear hfz12_2
     try clear hfz12_3
     try clear hfz16_0
     try clear hfz16_1
     try clear hfz16_2
     try clear hfz16_3
     try clear hfz20_0
     try clear hfz20_1
     try clear hfz20_2
     try clear hfz20_3
     try clear p2
     obtain ⟨kq, x120001_12, x120002_12, HA, HJ12, BK119, BK120, BK121, HB⟩ := hcut
     cases kq with
     | zero => exact absurd HA.out (by simp [buf_Put.j1])
     | succ kj12 =>
      have H := HA.out
      clear HA
      simp only [buf_Put.j1] at H
      by_cases c21 : a1 < x120002_12
      ·
       rw [if_pos c21] at H
       have c21b0 : decide (a1 < x120002_12) = true := decide_eq_true c21
       clear c21
       simp only [Option.some.injEq, Prod.mk.injEq] at H
       obtain ⟨rfl, rfl, rfl, rfl, rfl⟩ := H
       have hnb22 := NB119_120.out
       have hnc22 := NB120_119.out
       have hnb23 := NB119_121.out
       have hnc23 := NB121_119.out
       have hcz24_0 : wc.cell? ⟨gb119, 0, none⟩ = some (.int .i64 a0_0) := (bc BK119.out 0).trans rfl
       have hcz24_1 : wc.cell? ⟨gb119, 1, none⟩ = some (.int .i64 x120001_12) := (bc BK119.out 1).trans rfl
       have hcz24_2 : wc.cell? ⟨gb119, 2, none⟩ = some (.int .i64 x120002_12) := (bc BK119.out 2).trans rfl
       have hcz24_3 : wc.cell? ⟨gb119, 3, none⟩ = some (.string a0_3) := (bc BK119.out 3).trans rfl
       have hfz24_0 := bf BK119.out 0
       have hfz24_1 := bf BK119.out 1
       have hfz24_2 := bf BK119.out 2
       have hfz24_3 := bf BK119.out 3
       have hnb25 := NB121_120.out
       have hnc25 := NB120_121.out
       have hcz26_0 : wc.cell? ⟨gb121, 0, none⟩ = some (.int .i64 0) := (bc BK121.out 0).trans rfl
       have hcz26_1 : wc.cell? ⟨gb121, 1, none⟩ = some (.int .i64 0) := (bc BK121.out 1).trans rfl
       have hcz26_2 : wc.cell? ⟨gb121, 2, none⟩ = some (.int .i64 0) := (bc BK121.out 2).trans rfl
       have hcz26_3 : wc.cell? ⟨gb121, 3, none⟩ = some (.string (⟨#[]⟩ : ByteArray)) := (bc BK121.out 3).trans rfl
       have hfz26_0 := bf BK121.out 0
       have hfz26_1 := bf BK121.out 1
       have hfz26_2 := bf BK121.out 2
       have hfz26_3 := bf BK121.out 3
       go_wp2
       refine bodyPost_ret (results_ct rfl _ _ gb121 23 #[.int .i64 0, .int .i64 0, .int .i64 0, .string (⟨#[]⟩ : ByteArray)] (0, 0) _ rfl (by (with_reducible repeat (first | refine bn ?_ _ | refine bd ?_ | refine ba ?_ _)); refine blk_put (cs := #[.int .i64 0, .int .i64 0, .int .i64 0, .string (⟨#[]⟩ : ByteArray)]) ?_ 3 _ rfl; (with_reducible repeat (first | refine bn ?_ _ | refine bd ?_ | refine ba ?_ _)); refine blk_put (cs := #[.int .i64 0, .int .i64 0, .int .i64 0, .string (⟨#[]⟩ : ByteArray)]) ?_ 2 _ rfl; (with_reducible repeat (first | refine bn ?_ _ | refine bd ?_ | refine ba ?_ _)); refine blk_put (cs := #[.int .i64 0, .int .i64 0, .int .i64 0, .string (⟨#[]⟩ : ByteArray)]) ?_ 1 _ rfl; (with_reducible repeat (first | refine bn ?_ _ | refine bd ?_ | refine ba ?_ _)); refine blk_put (cs := #[.int .i64 0, .int .i64 0, .int .i64 0, .string (⟨#[]⟩ : ByteArray)]) ?_ 0 _ rfl; (with_reducible repeat (first | refine bn ?_ _ | refine bd ?_ | refine ba ?_ _)); exact BK121.out) Try.underlying23 rfl (by kernel_rfl)) rfl ?_
       exact ⟨by first | rfl | (simp [errW_none, errW_some] <;> rfl) | (simp [*, errW_none, errW_some] <;> rfl) | (simp [Aid.ne_nil, Aid.eq_nil, errW_none, errW_some]; done), by repeat (first | (with_reducible first | exact HB.out | apply bl | apply pN | apply b1 | refine bs ?_ GE119.out | refine bs ?_ GE120.out | refine bs ?_ GE121.out) | exact HB.out | exact HBo.out)⟩
      ·
       rw [if_neg c21] at H
       have c21b0 : decide (a1 < x120002_12) = false := decide_eq_false c21
       clear c21
       replace H := ob H
       obtain ⟨t122, A270, H⟩ := H
       replace H : (if t122 = true then ((event_Encode.f kj12 a2_0 (wrap64 (a1 - x120002_12)) l2_2 a2_3).bind fun t123 => (if a0_3.size + t123.size ≤ 9223372036854775807 then (some (a0_0, x120001_12, a1, a0_3 ++ t123, true)) else (none))) else (some (0, 0, 0, (⟨#[]⟩ : ByteArray), false))) = some (r1, r2, r3, r4, r5) := H
       have A27 := Am A270
       clear A270
       by_cases c28 : t122 = true
       ·
        subst c28
        have H1 : ((event_Encode.f kj12 a2_0 (wrap64 (a1 - x120002_12)) l2_2 a2_3).bind fun t123 => (if a0_3.size + t123.size ≤ 9223372036854775807 then (some (a0_0, x120001_12, a1, a0_3 ++ t123, true)) else (none))) = some (r1, r2, r3, r4, r5) := by rw [if_pos rfl] at H; exact H
        clear H
        have H := H1
        clear H1
        replace H := ob H
        obtain ⟨t123, A290, H⟩ := H
        replace H : (if a0_3.size + t123.size ≤ 9223372036854775807 then (some (a0_0, x120001_12, a1, a0_3 ++ t123, true)) else (none)) = some (r1, r2, r3, r4, r5) := H
        have A29 := Am A290
        clear A290
        by_cases c30 : a0_3.size + t123.size ≤ 9223372036854775807
        ·
         rw [if_pos c30] at H
         have c30b0 := eq_true c30
         have c30b1 : decide (a0_3.size + t123.size ≤ 9223372036854775807) = true := decide_eq_true c30
         try have c30b2 : (9223372036854775807 < a0_3.size + t123.size) = False := eq_false (Nat.not_lt.2 c30)
         simp only [Option.some.injEq, Prod.mk.injEq] at H
         obtain ⟨rfl, rfl, rfl, rfl, rfl⟩ := H
         have hnb31 := NB119_120.out
         have hnc31 := NB120_119.out
         have hnb32 := NB119_121.out
         have hnc32 := NB121_119.out
         have hcz33_0 : wc.cell? ⟨gb119, 0, none⟩ = some (.int .i64 a0_0) := (bc BK119.out 0).trans rfl
         have hcz33_1 : wc.cell? ⟨gb119, 1, none⟩ = some (.int .i64 x120001_12) := (bc BK119.out 1).trans rfl
         have hcz33_2 : wc.cell? ⟨gb119, 2, none⟩ = some (.int .i64 x120002_12) := (bc BK119.out 2).trans rfl
         have hcz33_3 : wc.cell? ⟨gb119, 3, none⟩ = some (.string a0_3) := (bc BK119.out 3).trans rfl
         have hfz33_0 := bf BK119.out 0
         have hfz33_1 := bf BK119.out 1
         have hfz33_2 := bf BK119.out 2
         have hfz33_3 := bf BK119.out 3
         have hnb34 := NB120_121.out
         have hnc34 := NB121_120.out
         have hcz35_0 : wc.cell? ⟨gb120, 0, none⟩ = some (.int .i64 a2_0) := (bc BK120.out 0).trans rfl
         have hcz35_1 : wc.cell? ⟨gb120, 1, none⟩ = some (.int .i64 a2_1) := (bc BK120.out 1).trans rfl
         have hcz35_2 : wc.cell? ⟨gb120, 2, none⟩ = some (.slice A2_2 l2_2.length c2_2) := (bc BK120.out 2).trans rfl
         have hcz35_3 : wc.cell? ⟨gb120, 3, none⟩ = some (.string a2_3) := (bc BK120.out 3).trans rfl
         have hfz35_0 := bf BK120.out 0
         have hfz35_1 := bf BK120.out 1
         have hfz35_2 := bf BK120.out 2
         have hfz35_3 := bf BK120.out 3
         try go_wp2_with (first | ((with_reducible refine gate_callee (f := 18) rfl ?_); refine goesL_ (some 33) rfl rfl Try.func18 (by kernel_rfl) rfl #[.agg #[.int .i64 a2_0, .int .i64 (wrap64 (a1 - x120002_12)), .slice A2_2 l2_2.length c2_2, .string a2_3]] rfl (by (try simp only [List.map_toArray, List.map_cons, List.map_nil]); first | done | rfl | (simp only [List.length_drop, List.length_take]; rfl)) ?_; (with_reducible refine (event_May.calls a2_0 (wrap64 (a1 - x120002_12)) _ _ l2_2 a2_3 true _ ?side1 ?side2 A27.out).mono ?_); (case side1 => exact Kd.C_below HR2_2.out (by repeat (first | (with_reducible first | exact HB.out | apply bl | apply pN | apply b1 | refine bs ?_ GE119.out | refine bs ?_ GE120.out | refine bs ?_ GE121.out) | exact HB.out | exact HBo.out))); (case side2 => exact HC2_2.out); rintro e w36 ⟨rfl, hb⟩; refine ⟨_, rfl, ?_⟩; have n0_ := Am (blk_below (g := gb119) (o := .cells #[.int .i64 a0_0, .int .i64 x120001_12, .int .i64 x120002_12, .string a0_3] 23 (0, 0)) (by (with_reducible repeat (first | refine bn ?_ _ | refine bd ?_ | refine ba ?_ _)); refine blk_far ?_ NB119_120.out _; (with_reducible repeat (first | refine bn ?_ _ | refine bd ?_ | refine ba ?_ _)); exact BK119.out) hb); have n1_ := Am (blk_below (g := gb120) (o := .cells #[.int .i64 a2_0, .int .i64 (wrap64 (a1 - x120002_12)), .slice A2_2 l2_2.length c2_2, .string a2_3] 28 (0, 0)) (by (with_reducible repeat (first | refine bn ?_ _ | refine bd ?_ | refine ba ?_ _)); refine blk_put (cs := #[.int .i64 a2_0, .int .i64 a2_1, .slice A2_2 l2_2.length c2_2, .string a2_3]) ?_ 1 _ rfl; (with_reducible repeat (first | refine bn ?_ _ | refine bd ?_ | refine ba ?_ _)); exact BK120.out) hb); have n2_ := Am (blk_below (g := gb121) (o := .cells #[.int .i64 0, .int .i64 0, .int .i64 0, .string (⟨#[]⟩ : ByteArray)] 23 (0, 0)) (by (with_reducible repeat (first | refine bn ?_ _ | refine bd ?_ | refine ba ?_ _)); refine blk_far ?_ NB121_120.out _; (with_reducible repeat (first | refine bn ?_ _ | refine bd ?_ | refine ba ?_ _)); exact BK121.out) hb); have n3_ := Am (below_step (by repeat (first | (with_reducible first | exact HB.out | apply bl | apply pN | apply b1 | refine bs ?_ GE119.out | refine bs ?_ GE120.out | refine bs ?_ GE121.out) | exact HB.out | exact HBo.out)) hb); clear BK119; clear BK120; clear BK121; clear HB; have BK119 := n0_; have BK120 := n1_; have BK121 := n2_; have HB := n3_; clear n0_ n1_ n2_ n3_; (try clear hb); (try clear hb2); (try clear hk); (try clear hi)))
         have n0_ := Am (bd BK119.out)
         have n1_ := Am (bd BK120.out)
         have n2_ := Am (bd BK121.out)
         have n3_ := Am (b1 HB.out)
         clear BK119
         clear BK120
         clear BK121
         clear HB
         have BK119 := n0_
         have BK120 := n1_
         have BK121 := n2_
         have HB := n3_
         clear n0_ n1_ n2_ n3_
         refine start_ (n := 7) (S := fun w' => w'.cell? ⟨gb119, 0, none⟩ = some (.int .i64 a0_0) ∧ w'.cell? ⟨gb119, 1, none⟩ = some (.int .i64 x120001_12) ∧ w'.cell? ⟨gb119, 2, none⟩ = some (.int .i64 x120002_12) ∧ w'.cell? ⟨gb119, 3, none⟩ = some (.string a0_3) ∧ w'.cell? ⟨gb120, 0, none⟩ = some (.int .i64 a2_0) ∧ w'.cell? ⟨gb120, 1, none⟩ = some (.int .i64 (wrap64 (a1 - x120002_12))) ∧ w'.cell? ⟨gb120, 2, none⟩ = some (.slice A2_2 l2_2.length c2_2) ∧ w'.cell? ⟨gb120, 3, none⟩ = some (.string a2_3)) (ds := [6]) q7_0 (by kernel_rfl) rfl rfl ⟨(bc BK119.out 0).trans rfl, (bc BK119.out 1).trans rfl, (bc BK119.out 2).trans rfl, (bc BK119.out 3).trans rfl, (bc BK120.out 0).trans rfl, (bc BK120.out 1).trans rfl, (bc BK120.out 2).trans rfl, (bc BK120.out 3).trans rfl⟩ (fun hHeld => ?_)
         generalize w36.drew = w37 at BK119 BK120 BK121 HB hHeld ⊢
         refine pure_ (i := 0) (N := some 36) (v := ?_) (a' := ?_) q7_1 rfl rfl (by kernel_rfl) (fun _ _ _ h => h) (Or.inl ⟨by rfl, ?_⟩) ?_ ?_
         rotate_left
         ·
          intro w'
          go_simp
          with_reducible rfl
         rotate_left
         ·
          simp only [Act.put, sI, sZ, sS, i64_w, i32_w]
          rfl
         refine take_ (i := 1) (N := some 37) (v := ?_) (a' := ?_) q7_2 rfl rfl (by kernel_rfl) (fun _ _ _ h => h) (Or.inl ⟨by rfl, ?_⟩) hHeld ?_ ?_
         rotate_left
         ·
          rintro w' ⟨s0, s1, s2, s3, s4, s5, s6, s7⟩
          go_simp
          with_reducible rfl
         rotate_left
         ·
          simp only [Act.put, sI, sZ, sS, i64_w, i32_w]
          rfl
         refine take_ (i := 2) (N := some 38) (v := ?_) (a' := ?_) q7_3 rfl rfl (by kernel_rfl) (fun _ _ _ h => h) (Or.inl ⟨by rfl, ?_⟩) hHeld ?_ ?_
         rotate_left
         ·
          rintro w' ⟨s0, s1, s2, s3, s4, s5, s6, s7⟩
          go_simp
          with_reducible rfl
         rotate_left
         ·
          simp only [Act.put, sI, sZ, sS, i64_w, i32_w]
          rfl
         refine one_ (i := 3) (N := some 39) q7_4 rfl rfl (by kernel_rfl) (by decide) (fun K hK => ?_)
         refine goes_ Try.func19 (by kernel_rfl) rfl #[.agg #[.int .i64 a2_0, .int .i64 (wrap64 (a1 - x120002_12)), .slice A2_2 l2_2.length c2_2, .string a2_3]] (by rfl) rfl rfl (by (try simp only [List.map_toArray, List.map_cons, List.map_nil]); first | done | rfl | (simp only [List.length_drop, List.length_take]; rfl)) ?_
         with_reducible refine (event_Encode.calls kj12 a2_0 (wrap64 (a1 - x120002_12)) _ _ l2_2 a2_3 t123 _ ?side1 ?side2 A29.out).mono ?_
         (case side1 => repeat (first | exact (Kd.C_below HR2_2.out HB.out) | (with_reducible refine Kd.C_alloc ?_ _) | (with_reducible refine Kd.C_drewN ?_ _) | (with_reducible refine Kd.C_drew ?_)))
         (case side2 => exact HC2_2.out)
         rintro e w38 ⟨rfl, hb⟩
         refine ⟨_, rfl, ?_⟩
         have n0_ := Am (blk_below (g := gb119) (o := .cells #[.int .i64 a0_0, .int .i64 x120001_12, .int .i64 x120002_12, .string a0_3] 23 (0, 0)) (by (with_reducible repeat (first | refine bn ?_ _ | refine bd ?_ | refine ba ?_ _)); exact BK119.out) hb)
         have n1_ := Am (blk_below (g := gb120) (o := .cells #[.int .i64 a2_0, .int .i64 (wrap64 (a1 - x120002_12)), .slice A2_2 l2_2.length c2_2, .string a2_3] 28 (0, 0)) (by (with_reducible repeat (first | refine bn ?_ _ | refine bd ?_ | refine ba ?_ _)); exact BK120.out) hb)
         have n2_ := Am (blk_below (g := gb121) (o := .cells #[.int .i64 0, .int .i64 0, .int .i64 0, .string (⟨#[]⟩ : ByteArray)] 23 (0, 0)) (by (with_reducible repeat (first | refine bn ?_ _ | refine bd ?_ | refine ba ?_ _)); exact BK121.out) hb)
         have n3_ := Am (below_step (by repeat (first | (with_reducible first | exact HB.out | apply bl | apply pN | apply b1 | refine bs ?_ GE119.out | refine bs ?_ GE120.out | refine bs ?_ GE121.out) | exact HB.out | exact HBo.out)) hb)
         clear BK119
         clear BK120
         clear BK121
         clear HB
         have BK119 := n0_
         have BK120 := n1_
         have BK121 := n2_
         have HB := n3_
         clear n0_ n1_ n2_ n3_
         (try clear hb)
         (try clear hb2)
         (try clear hk)
         (try clear hi)
         refine hK.out _ _ ⟨(bc BK119.out 0).trans rfl, (bc BK119.out 1).trans rfl, (bc BK119.out 2).trans rfl, (bc BK119.out 3).trans rfl, (bc BK120.out 0).trans rfl, (bc BK120.out 1).trans rfl, (bc BK120.out 2).trans rfl, (bc BK120.out 3).trans rfl⟩ (fun hHeld => ?_)
         clear hK K
         refine norm_ (a' := ?_) ?_ ?_
         rotate_left
         ·
          show Act.put _ (some 39) _ = _
          simp only [Act.put, sI, sZ, sS, i64_w, i32_w]
          rfl
         refine pure_ (i := 4) (N := some 40) (v := ?_) (a' := ?_) q7_5 rfl rfl (by kernel_rfl) (fun _ _ _ h => h) (Or.inl ⟨by rfl, ?_⟩) ?_ ?_
         rotate_left
         ·
          intro w'
          go_simp
          with_reducible rfl
         rotate_left
         ·
          simp only [Act.put, sI, sZ, sS, i64_w, i32_w]
          rfl
         refine pure_ (i := 5) (N := some 41) (v := ?_) (a' := ?_) q7_6 rfl rfl (by kernel_rfl) (fun _ _ _ h => h) (Or.inl ⟨by rfl, ?_⟩) ?_ ?_
         rotate_left
         ·
          intro w'
          go_simp
          with_reducible rfl
         rotate_left
         ·
          simp only [Act.put, sI, sZ, sS, i64_w, i32_w]
          rfl
         refine last_ (i := 6) (N := none) q7_7 rfl rfl (by kernel_rfl) (by decide) (fun K hK => ?_)
         have hs39 : w38.cell? ⟨gb119, 3, none⟩ = some (.string a0_3) := (bc BK119.out 3).trans rfl
         have hfs39 := bf BK119.out 3
         have hns39_1 := NB120_119.out
         have hns39_2 := NB121_119.out
         have hms39_1 := NB119_120.out
         have hms39_2 := NB119_121.out
         refine skip_ (w1 := ?_) (by rfl) rfl ?_ ?_
         rotate_left
         ·
          go_simp
          rfl
         refine hK.out _ _ ?_
         clear hK K
         refine done_ (by kernel_rfl) ?_
         have hcz40_0 : w38.cell? ⟨gb119, 0, none⟩ = some (.int .i64 a0_0) := (bc BK119.out 0).trans rfl
         have hcz40_1 : w38.cell? ⟨gb119, 1, none⟩ = some (.int .i64 x120001_12) := (bc BK119.out 1).trans rfl
         have hcz40_2 : w38.cell? ⟨gb119, 2, none⟩ = some (.int .i64 x120002_12) := (bc BK119.out 2).trans rfl
         have hcz40_3 : w38.cell? ⟨gb119, 3, none⟩ = some (.string a0_3) := (bc BK119.out 3).trans rfl
         have hfz40_0 := bf BK119.out 0
         have hfz40_1 := bf BK119.out 1
         have hfz40_2 := bf BK119.out 2
         have hfz40_3 := bf BK119.out 3
         have hcz41_0 : w38.cell? ⟨gb121, 0, none⟩ = some (.int .i64 0) := (bc BK121.out 0).trans rfl
         have hcz41_1 : w38.cell? ⟨gb121, 1, none⟩ = some (.int .i64 0) := (bc BK121.out 1).trans rfl
         have hcz41_2 : w38.cell? ⟨gb121, 2, none⟩ = some (.int .i64 0) := (bc BK121.out 2).trans rfl
         have hcz41_3 : w38.cell? ⟨gb121, 3, none⟩ = some (.string (⟨#[]⟩ : ByteArray)) := (bc BK121.out 3).trans rfl
         have hfz41_0 := bf BK121.out 0
         have hfz41_1 := bf BK121.out 1
         have hfz41_2 := bf BK121.out 2
         have hfz41_3 := bf BK121.out 3
         try go_wp2
         refine bodyPost_ret (results_ct rfl _ _ gb121 23 #[.int .i64 a0_0, .int .i64 x120001_12, .int .i64 a1, .string (a0_3 ++ t123)] (0, 0) _ rfl (by (with_reducible repeat (first | refine bn ?_ _ | refine bd ?_ | refine ba ?_ _)); refine blk_put (cs := #[.int .i64 a0_0, .int .i64 x120001_12, .int .i64 a1, .string (⟨#[]⟩ : ByteArray)]) ?_ 3 _ rfl; (with_reducible repeat (first | refine bn ?_ _ | refine bd ?_ | refine ba ?_ _)); refine blk_put (cs := #[.int .i64 a0_0, .int .i64 x120001_12, .int .i64 0, .string (⟨#[]⟩ : ByteArray)]) ?_ 2 _ rfl; (with_reducible repeat (first | refine bn ?_ _ | refine bd ?_ | refine ba ?_ _)); refine blk_put (cs := #[.int .i64 a0_0, .int .i64 0, .int .i64 0, .string (⟨#[]⟩ : ByteArray)]) ?_ 1 _ rfl; (with_reducible repeat (first | refine bn ?_ _ | refine bd ?_ | refine ba ?_ _)); refine blk_put (cs := #[.int .i64 0, .int .i64 0, .int .i64 0, .string (⟨#[]⟩ : ByteArray)]) ?_ 0 _ rfl; (with_reducible repeat (first | refine bn ?_ _ | refine bd ?_ | refine ba ?_ _)); refine blk_far ?_ NB121_119.out _; (with_reducible repeat (first | refine bn ?_ _ | refine bd ?_ | refine ba ?_ _)); refine blk_far ?_ NB121_119.out _; (with_reducible repeat (first | refine bn ?_ _ | refine bd ?_ | refine ba ?_ _)); exact BK121.out) Try.underlying23 rfl (by kernel_rfl)) rfl ?_
         exact ⟨by first | rfl | (simp [errW_none, errW_some] <;> rfl) | (simp [*, errW_none, errW_some] <;> rfl) | (simp [Aid.ne_nil, Aid.eq_nil, errW_none, errW_some]; done), by repeat (first | (with_reducible first | exact HB.out | apply bl | apply pN | apply b1 | refine bs ?_ GE119.out | refine bs ?_ GE120.out | refine bs ?_ GE121.out) | exact HB.out | exact HBo.out)⟩
        ·
         rw [if_neg c30] at H
         exact absurd H (by simp)
       ·
        replace c28 := Bool.eq_false_iff.mpr c28
        subst c28
        have H1 : (some (0, 0, 0, (⟨#[]⟩ : ByteArray), false)) = some (r1, r2, r3, r4, r5) := by rw [if_neg (show ¬ (false = true) by decide)] at H; exact H
        clear H
        have H := H1
        clear H1
        simp only [Option.some.injEq, Prod.mk.injEq] at H
        obtain ⟨rfl, rfl, rfl, rfl, rfl⟩ := H
        have hnb42 := NB119_120.out
        have hnc42 := NB120_119.out
        have hnb43 := NB119_121.out
        have hnc43 := NB121_119.out
        have hcz44_0 : wc.cell? ⟨gb119, 0, none⟩ = some (.int .i64 a0_0) := (bc BK119.out 0).trans rfl
        have hcz44_1 : wc.cell? ⟨gb119, 1, none⟩ = some (.int .i64 x120001_12) := (bc BK119.out 1).trans rfl
        have hcz44_2 : wc.cell? ⟨gb119, 2, none⟩ = some (.int .i64 x120002_12) := (bc BK119.out 2).trans rfl
        have hcz44_3 : wc.cell? ⟨gb119, 3, none⟩ = some (.string a0_3) := (bc BK119.out 3).trans rfl
        have hfz44_0 := bf BK119.out 0
        have hfz44_1 := bf BK119.out 1
        have hfz44_2 := bf BK119.out 2
        have hfz44_3 := bf BK119.out 3
        have hnb45 := NB120_121.out
        have hnc45 := NB121_120.out
        have hcz46_0 : wc.cell? ⟨gb120, 0, none⟩ = some (.int .i64 a2_0) := (bc BK120.out 0).trans rfl
        have hcz46_1 : wc.cell? ⟨gb120, 1, none⟩ = some (.int .i64 a2_1) := (bc BK120.out 1).trans rfl
        have hcz46_2 : wc.cell? ⟨gb120, 2, none⟩ = some (.slice A2_2 l2_2.length c2_2) := (bc BK120.out 2).trans rfl
        have hcz46_3 : wc.cell? ⟨gb120, 3, none⟩ = some (.string a2_3) := (bc BK120.out 3).trans rfl
        have hfz46_0 := bf BK120.out 0
        have hfz46_1 := bf BK120.out 1
        have hfz46_2 := bf BK120.out 2
        have hfz46_3 := bf BK120.out 3
        go_wp2_with (first | ((with_reducible refine gate_callee (f := 18) rfl ?_); refine goesL_ (some 33) rfl rfl Try.func18 (by kernel_rfl) rfl #[.agg #[.int .i64 a2_0, .int .i64 (wrap64 (a1 - x120002_12)), .slice A2_2 l2_2.length c2_2, .string a2_3]] rfl (by (try simp only [List.map_toArray, List.map_cons, List.map_nil]); first | done | rfl | (simp only [List.length_drop, List.length_take]; rfl)) ?_; (with_reducible refine (event_May.calls a2_0 (wrap64 (a1 - x120002_12)) _ _ l2_2 a2_3 false _ ?side1 ?side2 A27.out).mono ?_); (case side1 => exact Kd.C_below HR2_2.out (by repeat (first | (with_reducible first | exact HB.out | apply bl | apply pN | apply b1 | refine bs ?_ GE119.out | refine bs ?_ GE120.out | refine bs ?_ GE121.out) | exact HB.out | exact HBo.out))); (case side2 => exact HC2_2.out); rintro e w47 ⟨rfl, hb⟩; refine ⟨_, rfl, ?_⟩; have n0_ := Am (blk_below (g := gb119) (o := .cells #[.int .i64 a0_0, .int .i64 x120001_12, .int .i64 x120002_12, .string a0_3] 23 (0, 0)) (by (with_reducible repeat (first | refine bn ?_ _ | refine bd ?_ | refine ba ?_ _)); refine blk_far ?_ NB119_120.out _; (with_reducible repeat (first | refine bn ?_ _ | refine bd ?_ | refine ba ?_ _)); exact BK119.out) hb); have n1_ := Am (blk_below (g := gb120) (o := .cells #[.int .i64 a2_0, .int .i64 (wrap64 (a1 - x120002_12)), .slice A2_2 l2_2.length c2_2, .string a2_3] 28 (0, 0)) (by (with_reducible repeat (first | refine bn ?_ _ | refine bd ?_ | refine ba ?_ _)); refine blk_put (cs := #[.int .i64 a2_0, .int .i64 a2_1, .slice A2_2 l2_2.length c2_2, .string a2_3]) ?_ 1 _ rfl; (with_reducible repeat (first | refine bn ?_ _ | refine bd ?_ | refine ba ?_ _)); exact BK120.out) hb); have n2_ := Am (blk_below (g := gb121) (o := .cells #[.int .i64 0, .int .i64 0, .int .i64 0, .string (⟨#[]⟩ : ByteArray)] 23 (0, 0)) (by (with_reducible repeat (first | refine bn ?_ _ | refine bd ?_ | refine ba ?_ _)); refine blk_far ?_ NB121_120.out _; (with_reducible repeat (first | refine bn ?_ _ | refine bd ?_ | refine ba ?_ _)); exact BK121.out) hb); have n3_ := Am (below_step (by repeat (first | (with_reducible first | exact HB.out | apply bl | apply pN | apply b1 | refine bs ?_ GE119.out | refine bs ?_ GE120.out | refine bs ?_ GE121.out) | exact HB.out | exact HBo.out)) hb); clear BK119; clear BK120; clear BK121; clear HB; have BK119 := n0_; have BK120 := n1_; have BK121 := n2_; have HB := n3_; clear n0_ n1_ n2_ n3_; (try clear hb); (try clear hb2); (try clear hk); (try clear hi); have hcz48_0 : w47.cell? ⟨gb121, 0, none⟩ = some (.int .i64 0) := (bc BK121.out 0).trans rfl; have hcz48_1 : w47.cell? ⟨gb121, 1, none⟩ = some (.int .i64 0) := (bc BK121.out 1).trans rfl; have hcz48_2 : w47.cell? ⟨gb121, 2, none⟩ = some (.int .i64 0) := (bc BK121.out 2).trans rfl; have hcz48_3 : w47.cell? ⟨gb121, 3, none⟩ = some (.string (⟨#[]⟩ : ByteArray)) := (bc BK121.out 3).trans rfl; have hfz48_0 := bf BK121.out 0; have hfz48_1 := bf BK121.out 1; have hfz48_2 := bf BK121.out 2; have hfz48_3 := bf BK121.out 3))
        refine bodyPost_ret (results_ct rfl _ _ gb121 23 #[.int .i64 0, .int .i64 0, .int .i64 0, .string (⟨#[]⟩ : ByteArray)] (0, 0) _ rfl (by (with_reducible repeat (first | refine bn ?_ _ | refine bd ?_ | refine ba ?_ _)); refine blk_put (cs := #[.int .i64 0, .int .i64 0, .int .i64 0, .string (⟨#[]⟩ : ByteArray)]) ?_ 3 _ rfl; (with_reducible repeat (first | refine bn ?_ _ | refine bd ?_ | refine ba ?_ _)); refine blk_put (cs := #[.int .i64 0, .int .i64 0, .int .i64 0, .string (⟨#[]⟩ : ByteArray)]) ?_ 2 _ rfl; (with_reducible repeat (first | refine bn ?_ _ | refine bd ?_ | refine ba ?_ _)); refine blk_put (cs := #[.int .i64 0, .int .i64 0, .int .i64 0, .string (⟨#[]⟩ : ByteArray)]) ?_ 1 _ rfl; (with_reducible repeat (first | refine bn ?_ _ | refine bd ?_ | refine ba ?_ _)); refine blk_put (cs := #[.int .i64 0, .int .i64 0, .int .i64 0, .string (⟨#[]⟩ : ByteArray)]) ?_ 0 _ rfl; (with_reducible repeat (first | refine bn ?_ _ | refine bd ?_ | refine ba ?_ _)); exact BK121.out) Try.underlying23 rfl (by kernel_rfl)) rfl ?_
        exact ⟨by first | rfl | (simp [errW_none, errW_some] <;> rfl) | (simp [*, errW_none, errW_some] <;> rfl) | (simp [Aid.ne_nil, Aid.eq_nil, errW_none, errW_some]; done), by repeat (first | (with_reducible first | exact HB.out | apply bl | apply pN | apply b1 | refine bs ?_ GE119.out | refine bs ?_ GE120.out | refine bs ?_ GE121.out) | exact HB.out | exact HBo.out)⟩

end Go.Proofs.Ytgpnkgmghnmmjaa.Q
