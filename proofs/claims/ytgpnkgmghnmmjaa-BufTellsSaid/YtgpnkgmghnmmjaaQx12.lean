-- printed by a program of this session (NOTES: hprint); not the kit's print
-- minified
-- halved
import Derived.Test.YtgpnkgmghnmmjaaAl
import Derived.Test.YtgpnkgmghnmmjaaQx0
import Derived.Test.YtgpnkgmghnmmjaaQx28
namespace Go.Proofs.Ytgpnkgmghnmmjaa.Q
open Go.RowKit Go.Proofs.YtgpnkgmghnmmjaaW.PrintWords Go.Proofs.YtgpnkgmghnmmjaaW.PrintLast Go.Proofs.YtgpnkgmghnmmjaaW.PrintMore
attribute [local go_sem] max2_int min2_int max_two min_two max_three min_three max_four min_four   -- for this text's walks alone
set_option linter.unusedVariables false
set_option linter.unusedSimpArgs false

def q12_0 : Array Bool := let o := true; let z := false; #[z,z,z,z,z,z,z]
def q12_1 : Array Bool := let o := true; let z := false; #[z,o,z,z,z,z,z]
def q12_2 : Array Bool := let o := true; let z := false; #[o,o,z,z,z,z,z]
def q12_3 : Array Bool := let o := true; let z := false; #[o,o,o,z,z,z,z]
def q12_4 : Array Bool := let o := true; let z := false; #[o,o,o,o,z,z,z]
def q12_5 : Array Bool := let o := true; let z := false; #[o,o,o,o,o,z,z]
def q12_6 : Array Bool := let o := true; let z := false; #[o,o,o,o,o,o,z]
def q12_7 : Array Bool := let o := true; let z := false; #[o,o,o,o,o,o,o]
/-! ### shuttlecockref19_Seal: function 13 -/
def shuttlecockref19_Seal.j0 : Nat → Int → Bool → Int → Int → Int → ByteArray → Option (Int × Int × Int × ByteArray × Int × Int × Int × ByteArray × Bool)
 | 0, _, _, _, _, _, _ => none
 | k + 1, x1, x16, x240000, x240001, x240002, x240003 => if x16 = true then (some (0, 0, 0, (⟨#[]⟩ : ByteArray), 0, 0, 0, (⟨#[]⟩ : ByteArray), false)) else ((shuttlecockref05_May.f x1 (wrap64 (x240000 + 1)) x240001 x240003).bind fun t243 => (if t243 = true then (some (x1, wrap64 (x240000 + 1), x240001, x240003, x240000, 0, 0, (⟨#[]⟩ : ByteArray), true)) else (some (0, 0, 0, (⟨#[]⟩ : ByteArray), 0, 0, 0, (⟨#[]⟩ : ByteArray), false))))
def shuttlecockref19_Seal.f (k : Nat) (a0_0 : Int) (a0_1 : Int) (a0_2 : Int) (a0_3 : ByteArray) (a1 : Int) : Option (Int × Int × Int × ByteArray × Int × Int × Int × ByteArray × Bool) := if a0_0 < 1 then (shuttlecockref19_Seal.j0 k a1 true a0_0 a0_1 a0_2 a0_3) else (shuttlecockref19_Seal.j0 k a1 ((a0_3.size : Int) == 0) a0_0 a0_1 a0_2 a0_3)
theorem shuttlecockref19_Seal.mono_l : ∀ k, (∀ y0 y1 y2 y3 y4 y5, LeO (shuttlecockref19_Seal.j0 k y0 y1 y2 y3 y4 y5) (shuttlecockref19_Seal.j0 (k + 1) y0 y1 y2 y3 y4 y5))
 | 0 => fun _ _ _ _ _ _ r h => by simp [shuttlecockref19_Seal.j0] at h
 | k + 1 => by
  have ih0 := shuttlecockref19_Seal.mono_l k
  ·
   intro y0 y1 y2 y3 y4 y5
   unfold shuttlecockref19_Seal.j0
   repeat' first
   | (with_reducible exact ih0 _ _ _ _ _ _)
   | (with_reducible exact LeO.refl _)
   | (with_reducible exact LeO.none _)
   | (with_reducible refine LeO.ite ?_ ?_)
   | (with_reducible refine LeO.bind ?_ (fun _ => ?_))
   | exact ih0 _ _ _ _ _ _
   | exact LeO.none _
   | refine LeO.ite ?_ ?_
   | refine LeO.bind ?_ (fun _ => ?_)
theorem shuttlecockref19_Seal.mono : ∀ a0 a1 a2 a3 a4 k, LeO (shuttlecockref19_Seal.f k a0 a1 a2 a3 a4) (shuttlecockref19_Seal.f (k + 1) a0 a1 a2 a3 a4) := by
 intro a0 a1 a2 a3 a4 k
 have ih0 := shuttlecockref19_Seal.mono_l k
 unfold shuttlecockref19_Seal.f
 repeat' first
   | (with_reducible exact ih0 _ _ _ _ _ _)
   | (with_reducible exact LeO.refl _)
   | (with_reducible exact LeO.none _)
   | (with_reducible refine LeO.ite ?_ ?_)
   | (with_reducible refine LeO.bind ?_ (fun _ => ?_))
   | exact ih0 _ _ _ _ _ _
   | exact LeO.none _
   | refine LeO.ite ?_ ?_
   | refine LeO.bind ?_ (fun _ => ?_)
set_option maxHeartbeats 8000000 in
set_option maxRecDepth 100000 in
theorem shuttlecockref19_Seal.calls (k : Nat) (a0_0 : Int) (a0_1 : Int) (a0_2 : Int) (a0_3 : ByteArray) (a1 : Int) (r1 : Int) (r2 : Int) (r3 : Int) (r4 : ByteArray) (r5 : Int) (r6 : Int) (r7 : Int) (r8 : ByteArray) (r9 : Bool) (w : World) (h : shuttlecockref19_Seal.f k a0_0 a0_1 a0_2 a0_3 a1 = some (r1, r2, r3, r4, r5, r6, r7, r8, r9)) :
  Calls Try.prog 13 #[.agg #[.int .i64 a0_0, .int .i64 a0_1, .int .i64 a0_2, .string a0_3], .int .i64 a1] w fun e w' => e = .returned (.tuple #[.agg #[.int .i64 r1, .int .i64 r2, .int .i64 r3, .string r4], .agg #[.int .i64 r5, .int .i64 r6, .int .i64 r7, .string r8], .bool r9]) ∧ Below w.heap.size w w' := by
 have hu23 := Try.underlying23
 have hu35 := Try.underlying35
 have HB := Am (Below.refl w.heap.size w)
 have H : (if a0_0 < 1 then (shuttlecockref19_Seal.j0 k a1 true a0_0 a0_1 a0_2 a0_3) else (shuttlecockref19_Seal.j0 k a1 ((a0_3.size : Int) == 0) a0_0 a0_1 a0_2 a0_3)) = some (r1, r2, r3, r4, r5, r6, r7, r8, r9) := h
 clear h
 have HC3 := Am H
 clear H
 go_enter Try.func13, Try.ntmps13
 go_upto_region 1 with (first | ((with_reducible refine gate_dst (N := 2) rfl ?_); (try (refine gate_guard (by rfl) ?_; dsimp only)); refine box_event ?hg (N := 2) ?hd (cs := #[.int .i64 a0_0, .int .i64 a0_1, .int .i64 a0_2, .string a0_3]) (t := 23) ?hr ?_; (case hd => rfl); (case hg => rfl); (case hr => first | (go_simp; done) | (go_simp; rfl)); intro gb239 hg w4 hbox hb; have n0_ := Am (below_step (by repeat (first | (with_reducible first | exact HB.out | apply bl | apply pN | apply b1) | exact HB.out | exact HBo.out)) hb); have n1_ := Am (hbox); have n2_ := Am ((by rw [hg]; exact (below_size (by repeat (first | (with_reducible first | exact HB.out | apply bl | apply pN | apply b1) | exact HB.out | exact HBo.out))) : w.heap.size ≤ gb239)); have n3_ := Am ((by rw [hg]; exact (below_size (by repeat (first | (with_reducible first | exact HB.out | apply bl | apply pN | apply b1) | exact HB.out | exact HBo.out))) : w.heap.size ≤ gb239)); clear HB; have HB := n0_; have BK239 := n1_; have GW239 := n2_; have GE239 := n3_; clear n0_ n1_ n2_ n3_; clear hb hbox hg) | ((with_reducible refine gate_dst (N := 4) rfl ?_); (try (refine gate_guard (by rfl) ?_; dsimp only)); refine box_event ?hg (N := 4) ?hd (cs := #[.int .i64 0, .int .i64 0, .int .i64 0, .string (⟨#[]⟩ : ByteArray)]) (t := 35) ?hr ?_; (case hd => rfl); (case hg => rfl); (case hr => first | (go_simp; done) | (go_simp; rfl)); intro gb240 hg w5 hbox hb; have n0_ := Am (blk_below (g := gb239) (o := .cells #[.int .i64 a0_0, .int .i64 a0_1, .int .i64 a0_2, .string a0_3] 23 (0, 0)) (by (with_reducible repeat (first | refine bn ?_ _ | refine bd ?_ | refine ba ?_ _)); exact BK239.out) hb); have n1_ := Am (below_step (by repeat (first | (with_reducible first | exact HB.out | apply bl | apply pN | apply b1 | refine bs ?_ GE239.out) | exact HB.out | exact HBo.out)) hb); have n2_ := Am (hbox); have n3_ := Am ((by rw [hg]; exact (below_size (by repeat (first | (with_reducible first | exact HB.out | apply bl | apply pN | apply b1 | refine bs ?_ GE239.out) | exact HB.out | exact HBo.out))) : w.heap.size ≤ gb240)); have n4_ := Am ((by rw [hg]; exact (below_size (by repeat (first | (with_reducible first | exact HB.out | apply bl | apply pN | apply b1 | refine bs ?_ GE239.out) | exact HB.out | exact HBo.out))) : w.heap.size ≤ gb240)); have n5_ := Am ((by rw [hg]; exact Nat.ne_of_lt (blk_lt (g := gb239) (o := .cells #[.int .i64 a0_0, .int .i64 a0_1, .int .i64 a0_2, .string a0_3] 23 (0, 0)) (by (with_reducible repeat (first | refine bn ?_ _ | refine bd ?_ | refine ba ?_ _)); exact BK239.out)) : gb239 ≠ gb240)); have n6_ := Am ((by rw [hg]; exact Nat.ne_of_gt (blk_lt (g := gb239) (o := .cells #[.int .i64 a0_0, .int .i64 a0_1, .int .i64 a0_2, .string a0_3] 23 (0, 0)) (by (with_reducible repeat (first | refine bn ?_ _ | refine bd ?_ | refine ba ?_ _)); exact BK239.out)) : gb240 ≠ gb239)); clear BK239; clear HB; have BK239 := n0_; have HB := n1_; have BK240 := n2_; have GW240 := n3_; have GE240 := n4_; have NB239_240 := n5_; have NB240_239 := n6_; clear n0_ n1_ n2_ n3_ n4_ n5_ n6_; clear hb hbox hg) | ((with_reducible refine gate_dst (N := 5) rfl ?_); (try (refine gate_guard (by rfl) ?_; dsimp only)); refine box_event ?hg (N := 5) ?hd (cs := #[.int .i64 0, .int .i64 0, .int .i64 0, .string (⟨#[]⟩ : ByteArray)]) (t := 23) ?hr ?_; (case hd => rfl); (case hg => rfl); (case hr => first | (go_simp; done) | (go_simp; rfl)); intro gb241 hg w6 hbox hb; have n0_ := Am (blk_below (g := gb239) (o := .cells #[.int .i64 a0_0, .int .i64 a0_1, .int .i64 a0_2, .string a0_3] 23 (0, 0)) (by (with_reducible repeat (first | refine bn ?_ _ | refine bd ?_ | refine ba ?_ _)); exact BK239.out) hb); have n1_ := Am (blk_below (g := gb240) (o := .cells #[.int .i64 0, .int .i64 0, .int .i64 0, .string (⟨#[]⟩ : ByteArray)] 35 (0, 0)) (by (with_reducible repeat (first | refine bn ?_ _ | refine bd ?_ | refine ba ?_ _)); exact BK240.out) hb); have n2_ := Am (below_step (by repeat (first | (with_reducible first | exact HB.out | apply bl | apply pN | apply b1 | refine bs ?_ GE239.out | refine bs ?_ GE240.out) | exact HB.out | exact HBo.out)) hb); have n3_ := Am (hbox); have n4_ := Am ((by rw [hg]; exact (below_size (by repeat (first | (with_reducible first | exact HB.out | apply bl | apply pN | apply b1 | refine bs ?_ GE239.out | refine bs ?_ GE240.out) | exact HB.out | exact HBo.out))) : w.heap.size ≤ gb241)); have n5_ := Am ((by rw [hg]; exact (below_size (by repeat (first | (with_reducible first | exact HB.out | apply bl | apply pN | apply b1 | refine bs ?_ GE239.out | refine bs ?_ GE240.out) | exact HB.out | exact HBo.out))) : w.heap.size ≤ gb241)); have n6_ := Am ((by rw [hg]; exact Nat.ne_of_lt (blk_lt (g := gb239) (o := .cells #[.int .i64 a0_0, .int .i64 a0_1, .int .i64 a0_2, .string a0_3] 23 (0, 0)) (by (with_reducible repeat (first | refine bn ?_ _ | refine bd ?_ | refine ba ?_ _)); exact BK239.out)) : gb239 ≠ gb241)); have n7_ := Am ((by rw [hg]; exact Nat.ne_of_gt (blk_lt (g := gb239) (o := .cells #[.int .i64 a0_0, .int .i64 a0_1, .int .i64 a0_2, .string a0_3] 23 (0, 0)) (by (with_reducible repeat (first | refine bn ?_ _ | refine bd ?_ | refine ba ?_ _)); exact BK239.out)) : gb241 ≠ gb239)); have n8_ := Am ((by rw [hg]; exact Nat.ne_of_lt (blk_lt (g := gb240) (o := .cells #[.int .i64 0, .int .i64 0, .int .i64 0, .string (⟨#[]⟩ : ByteArray)] 35 (0, 0)) (by (with_reducible repeat (first | refine bn ?_ _ | refine bd ?_ | refine ba ?_ _)); exact BK240.out)) : gb240 ≠ gb241)); have n9_ := Am ((by rw [hg]; exact Nat.ne_of_gt (blk_lt (g := gb240) (o := .cells #[.int .i64 0, .int .i64 0, .int .i64 0, .string (⟨#[]⟩ : ByteArray)] 35 (0, 0)) (by (with_reducible repeat (first | refine bn ?_ _ | refine bd ?_ | refine ba ?_ _)); exact BK240.out)) : gb241 ≠ gb240)); clear BK239; clear BK240; clear HB; have BK239 := n0_; have BK240 := n1_; have HB := n2_; have BK241 := n3_; have GW241 := n4_; have GE241 := n5_; have NB239_241 := n6_; have NB241_239 := n7_; have NB240_241 := n8_; have NB241_240 := n9_; clear n0_ n1_ n2_ n3_ n4_ n5_ n6_ n7_ n8_ n9_; clear hb hbox hg))
 (try simp only [Act.put, sI, sZ, sS])
 go_cut [16] (fun v16 wc => ∃ (kq : Nat) (x16_2 : Bool), v16 = .bool x16_2 ∧ Aside0 (shuttlecockref19_Seal.j0 kq a1 x16_2 a0_0 a0_1 a0_2 a0_3 = some (r1, r2, r3, r4, r5, r6, r7, r8, r9)) ∧ Aside0 (kq ≤ k) ∧ Aside0 (wc.heap[gb239]? = some (.cells #[.int .i64 a0_0, .int .i64 a0_1, .int .i64 a0_2, .string a0_3] 23 (0, 0))) ∧ Aside0 (wc.heap[gb240]? = some (.cells #[.int .i64 0, .int .i64 0, .int .i64 0, .string (⟨#[]⟩ : ByteArray)] 35 (0, 0))) ∧ Aside0 (wc.heap[gb241]? = some (.cells #[.int .i64 0, .int .i64 0, .int .i64 0, .string (⟨#[]⟩ : ByteArray)] 23 (0, 0))) ∧ Aside0 (Below w.heap.size w wc))
 case first =>
  have H := HC3.out
  clear HC3
  by_cases c7 : a0_0 < 1
  ·
   rw [if_pos c7] at H
   have c7b0 : decide (a0_0 < 1) = true := decide_eq_true c7
   clear c7
   (first | rw [c7b0] | (simp only [i64_w, i32_w]; rw [c7b0]) | skip)
   have H' := Am H
   clear H
   have hnb8 := NB239_240.out
   have hnc8 := NB240_239.out
   have hnb9 := NB239_241.out
   have hnc9 := NB241_239.out
   have hcz10_0 : w6.cell? ⟨gb239, 0, none⟩ = some (.int .i64 a0_0) := (bc BK239.out 0).trans rfl
   have hcz10_1 : w6.cell? ⟨gb239, 1, none⟩ = some (.int .i64 a0_1) := (bc BK239.out 1).trans rfl
   have hcz10_2 : w6.cell? ⟨gb239, 2, none⟩ = some (.int .i64 a0_2) := (bc BK239.out 2).trans rfl
   have hcz10_3 : w6.cell? ⟨gb239, 3, none⟩ = some (.string a0_3) := (bc BK239.out 3).trans rfl
   have hfz10_0 := bf BK239.out 0
   have hfz10_1 := bf BK239.out 1
   have hfz10_2 := bf BK239.out 2
   have hfz10_3 := bf BK239.out 3
   go_wp2
   go_meet
   case rel => exact ⟨_, (true), (by first | rfl | (simp; done) | (simp [*]; done)), H', ⟨by first | omega | exact Nat.le_refl _⟩, ⟨by (with_reducible repeat (first | refine bn ?_ _ | refine bd ?_ | refine ba ?_ _)); exact BK239.out⟩, ⟨by (with_reducible repeat (first | refine bn ?_ _ | refine bd ?_ | refine ba ?_ _)); exact BK240.out⟩, ⟨by (with_reducible repeat (first | refine bn ?_ _ | refine bd ?_ | refine ba ?_ _)); exact BK241.out⟩, ⟨by repeat (first | (with_reducible first | exact HB.out | apply bl | apply pN | apply b1 | refine bs ?_ GE239.out | refine bs ?_ GE240.out | refine bs ?_ GE241.out) | exact HB.out | exact HBo.out)⟩⟩
  ·
   rw [if_neg c7] at H
   have c7b0 : decide (a0_0 < 1) = false := decide_eq_false c7
   clear c7
   (first | rw [c7b0] | (simp only [i64_w, i32_w]; rw [c7b0]) | skip)
   have H' := Am H
   clear H
   have hnb11 := NB239_240.out
   have hnc11 := NB240_239.out
   have hnb12 := NB239_241.out
   have hnc12 := NB241_239.out
   have hcz13_0 : w6.cell? ⟨gb239, 0, none⟩ = some (.int .i64 a0_0) := (bc BK239.out 0).trans rfl
   have hcz13_1 : w6.cell? ⟨gb239, 1, none⟩ = some (.int .i64 a0_1) := (bc BK239.out 1).trans rfl
   have hcz13_2 : w6.cell? ⟨gb239, 2, none⟩ = some (.int .i64 a0_2) := (bc BK239.out 2).trans rfl
   have hcz13_3 : w6.cell? ⟨gb239, 3, none⟩ = some (.string a0_3) := (bc BK239.out 3).trans rfl
   have hfz13_0 := bf BK239.out 0
   have hfz13_1 := bf BK239.out 1
   have hfz13_2 := bf BK239.out 2
   have hfz13_3 := bf BK239.out 3
   go_wp2
   go_meet
   case rel => exact ⟨_, (((a0_3.size : Int) == 0)), (by first | rfl | (simp; done) | (simp [*]; done)), H', ⟨by first | omega | exact Nat.le_refl _⟩, ⟨by (with_reducible repeat (first | refine bn ?_ _ | refine bd ?_ | refine ba ?_ _)); exact BK239.out⟩, ⟨by (with_reducible repeat (first | refine bn ?_ _ | refine bd ?_ | refine ba ?_ _)); exact BK240.out⟩, ⟨by (with_reducible repeat (first | refine bn ?_ _ | refine bd ?_ | refine ba ?_ _)); exact BK241.out⟩, ⟨by repeat (first | (with_reducible first | exact HB.out | apply bl | apply pN | apply b1 | refine bs ?_ GE239.out | refine bs ?_ GE240.out | refine bs ?_ GE241.out) | exact HB.out | exact HBo.out)⟩⟩
 case rest =>
  clear HC3
  try clear c1
  try clear p2
  try clear c7
  try clear c7b0
  try clear c8
  try clear c9
  try clear c11
  try clear c12
  try clear c13
  try clear hcz10_0
  try clear hcz10_1
  try clear hcz10_2
  try clear hcz10_3
  try clear hcz13_0
  try clear hcz13_1
  try clear hcz13_2
  try clear hcz13_3
  try clear hfz10_0
  try clear hfz10_1
  try clear hfz10_2
  try clear hfz10_3
  try clear hfz13_0
  try clear hfz13_1
  try clear hfz13_2
  try clear hfz13_3
  obtain ⟨kq, x16_2, rfl, HA, HJ2, BK239, BK240, BK241, HB⟩ := hcut
  cases kq with
  | zero => exact absurd HA.out (by simp [shuttlecockref19_Seal.j0])
  | succ kj2 =>
   have H := HA.out
   clear HA
   simp only [shuttlecockref19_Seal.j0] at H
   by_cases c14 : x16_2 = true
   ·
    subst c14
    have H1 : (some (0, 0, 0, (⟨#[]⟩ : ByteArray), 0, 0, 0, (⟨#[]⟩ : ByteArray), false)) = some (r1, r2, r3, r4, r5, r6, r7, r8, r9) := by rw [if_pos rfl] at H; exact H
    clear H
    have H := H1
    clear H1
    simp only [Option.some.injEq, Prod.mk.injEq] at H
    obtain ⟨rfl, rfl, rfl, rfl, rfl, rfl, rfl, rfl, rfl⟩ := H
    have hnb15 := NB240_239.out
    have hnc15 := NB239_240.out
    have hnb16 := NB240_241.out
    have hnc16 := NB241_240.out
    have hcz17_0 : wc.cell? ⟨gb240, 0, none⟩ = some (.int .i64 0) := (bc BK240.out 0).trans rfl
    have hcz17_1 : wc.cell? ⟨gb240, 1, none⟩ = some (.int .i64 0) := (bc BK240.out 1).trans rfl
    have hcz17_2 : wc.cell? ⟨gb240, 2, none⟩ = some (.int .i64 0) := (bc BK240.out 2).trans rfl
    have hcz17_3 : wc.cell? ⟨gb240, 3, none⟩ = some (.string (⟨#[]⟩ : ByteArray)) := (bc BK240.out 3).trans rfl
    have hfz17_0 := bf BK240.out 0
    have hfz17_1 := bf BK240.out 1
    have hfz17_2 := bf BK240.out 2
    have hfz17_3 := bf BK240.out 3
    have hnb18 := NB241_239.out
    have hnc18 := NB239_241.out
    have hcz19_0 : wc.cell? ⟨gb241, 0, none⟩ = some (.int .i64 0) := (bc BK241.out 0).trans rfl
    have hcz19_1 : wc.cell? ⟨gb241, 1, none⟩ = some (.int .i64 0) := (bc BK241.out 1).trans rfl
    have hcz19_2 : wc.cell? ⟨gb241, 2, none⟩ = some (.int .i64 0) := (bc BK241.out 2).trans rfl
    have hcz19_3 : wc.cell? ⟨gb241, 3, none⟩ = some (.string (⟨#[]⟩ : ByteArray)) := (bc BK241.out 3).trans rfl
    have hfz19_0 := bf BK241.out 0
    have hfz19_1 := bf BK241.out 1
    have hfz19_2 := bf BK241.out 2
    have hfz19_3 := bf BK241.out 3
    go_wp2
    refine bodyPost_ret (results_list (rs := [.cell 4 35, .cell 5 23, .tmp 6]) rfl (by simp) (.cell gb240 35 #[.int .i64 0, .int .i64 0, .int .i64 0, .string (⟨#[]⟩ : ByteArray)] (0, 0) _ rfl (by (with_reducible repeat (first | refine bn ?_ _ | refine bd ?_ | refine ba ?_ _)); refine blk_far ?_ NB240_241.out _; (with_reducible repeat (first | refine bn ?_ _ | refine bd ?_ | refine ba ?_ _)); refine blk_far ?_ NB240_241.out _; (with_reducible repeat (first | refine bn ?_ _ | refine bd ?_ | refine ba ?_ _)); refine blk_far ?_ NB240_241.out _; (with_reducible repeat (first | refine bn ?_ _ | refine bd ?_ | refine ba ?_ _)); refine blk_far ?_ NB240_241.out _; (with_reducible repeat (first | refine bn ?_ _ | refine bd ?_ | refine ba ?_ _)); refine blk_put (cs := #[.int .i64 0, .int .i64 0, .int .i64 0, .string (⟨#[]⟩ : ByteArray)]) ?_ 3 _ rfl; (with_reducible repeat (first | refine bn ?_ _ | refine bd ?_ | refine ba ?_ _)); refine blk_put (cs := #[.int .i64 0, .int .i64 0, .int .i64 0, .string (⟨#[]⟩ : ByteArray)]) ?_ 2 _ rfl; (with_reducible repeat (first | refine bn ?_ _ | refine bd ?_ | refine ba ?_ _)); refine blk_put (cs := #[.int .i64 0, .int .i64 0, .int .i64 0, .string (⟨#[]⟩ : ByteArray)]) ?_ 1 _ rfl; (with_reducible repeat (first | refine bn ?_ _ | refine bd ?_ | refine ba ?_ _)); refine blk_put (cs := #[.int .i64 0, .int .i64 0, .int .i64 0, .string (⟨#[]⟩ : ByteArray)]) ?_ 0 _ rfl; (with_reducible repeat (first | refine bn ?_ _ | refine bd ?_ | refine ba ?_ _)); exact BK240.out) Try.underlying35 rfl (by kernel_rfl) (.cell gb241 23 #[.int .i64 0, .int .i64 0, .int .i64 0, .string (⟨#[]⟩ : ByteArray)] (0, 0) _ rfl (by (with_reducible repeat (first | refine bn ?_ _ | refine bd ?_ | refine ba ?_ _)); refine blk_put (cs := #[.int .i64 0, .int .i64 0, .int .i64 0, .string (⟨#[]⟩ : ByteArray)]) ?_ 3 _ rfl; (with_reducible repeat (first | refine bn ?_ _ | refine bd ?_ | refine ba ?_ _)); refine blk_put (cs := #[.int .i64 0, .int .i64 0, .int .i64 0, .string (⟨#[]⟩ : ByteArray)]) ?_ 2 _ rfl; (with_reducible repeat (first | refine bn ?_ _ | refine bd ?_ | refine ba ?_ _)); refine blk_put (cs := #[.int .i64 0, .int .i64 0, .int .i64 0, .string (⟨#[]⟩ : ByteArray)]) ?_ 1 _ rfl; (with_reducible repeat (first | refine bn ?_ _ | refine bd ?_ | refine ba ?_ _)); refine blk_put (cs := #[.int .i64 0, .int .i64 0, .int .i64 0, .string (⟨#[]⟩ : ByteArray)]) ?_ 0 _ rfl; (with_reducible repeat (first | refine bn ?_ _ | refine bd ?_ | refine ba ?_ _)); refine blk_far ?_ NB241_240.out _; (with_reducible repeat (first | refine bn ?_ _ | refine bd ?_ | refine ba ?_ _)); refine blk_far ?_ NB241_240.out _; (with_reducible repeat (first | refine bn ?_ _ | refine bd ?_ | refine ba ?_ _)); refine blk_far ?_ NB241_240.out _; (with_reducible repeat (first | refine bn ?_ _ | refine bd ?_ | refine ba ?_ _)); refine blk_far ?_ NB241_240.out _; (with_reducible repeat (first | refine bn ?_ _ | refine bd ?_ | refine ba ?_ _)); exact BK241.out) Try.underlying23 rfl (by kernel_rfl) (.tmp .nil)))) rfl ?_
    exact ⟨by first | rfl | (simp [errW_none, errW_some] <;> rfl) | (simp [*, errW_none, errW_some] <;> rfl) | (simp [Aid.ne_nil, Aid.eq_nil, errW_none, errW_some]; done), by repeat (first | (with_reducible first | exact HB.out | apply bl | apply pN | apply b1 | refine bs ?_ GE239.out | refine bs ?_ GE240.out | refine bs ?_ GE241.out) | exact HB.out | exact HBo.out)⟩
   ·
    replace c14 := Bool.eq_false_iff.mpr c14
    subst c14
    have H1 : ((shuttlecockref05_May.f a1 (wrap64 (a0_0 + 1)) a0_1 a0_3).bind fun t243 => (if t243 = true then (some (a1, wrap64 (a0_0 + 1), a0_1, a0_3, a0_0, 0, 0, (⟨#[]⟩ : ByteArray), true)) else (some (0, 0, 0, (⟨#[]⟩ : ByteArray), 0, 0, 0, (⟨#[]⟩ : ByteArray), false)))) = some (r1, r2, r3, r4, r5, r6, r7, r8, r9) := by rw [if_neg (show ¬ (false = true) by decide)] at H; exact H
    clear H
    have H := H1
    clear H1
    replace H := ob H
    obtain ⟨t243, A200, H⟩ := H
    replace H : (if t243 = true then (some (a1, wrap64 (a0_0 + 1), a0_1, a0_3, a0_0, 0, 0, (⟨#[]⟩ : ByteArray), true)) else (some (0, 0, 0, (⟨#[]⟩ : ByteArray), 0, 0, 0, (⟨#[]⟩ : ByteArray), false))) = some (r1, r2, r3, r4, r5, r6, r7, r8, r9) := H
    have A20 := Am A200
    clear A200
    by_cases c21 : t243 = true
    ·
     subst c21
     have H1 : (some (a1, wrap64 (a0_0 + 1), a0_1, a0_3, a0_0, 0, 0, (⟨#[]⟩ : ByteArray), true)) = some (r1, r2, r3, r4, r5, r6, r7, r8, r9) := by rw [if_pos rfl] at H; exact H
     clear H
     have H := H1
     clear H1
     simp only [Option.some.injEq, Prod.mk.injEq] at H
     obtain ⟨rfl, rfl, rfl, rfl, rfl, rfl, rfl, rfl, rfl⟩ := H
     have hnb22 := NB239_240.out
     have hnc22 := NB240_239.out
     have hnb23 := NB239_241.out
     have hnc23 := NB241_239.out
     have hcz24_0 : wc.cell? ⟨gb239, 0, none⟩ = some (.int .i64 a0_0) := (bc BK239.out 0).trans rfl
     have hcz24_1 : wc.cell? ⟨gb239, 1, none⟩ = some (.int .i64 a0_1) := (bc BK239.out 1).trans rfl
     have hcz24_2 : wc.cell? ⟨gb239, 2, none⟩ = some (.int .i64 a0_2) := (bc BK239.out 2).trans rfl
     have hcz24_3 : wc.cell? ⟨gb239, 3, none⟩ = some (.string a0_3) := (bc BK239.out 3).trans rfl
     have hfz24_0 := bf BK239.out 0
     have hfz24_1 := bf BK239.out 1
     have hfz24_2 := bf BK239.out 2
     have hfz24_3 := bf BK239.out 3
     try go_wp2_with (first | ((with_reducible refine gate_dst (N := 7) rfl ?_); (try (refine gate_guard (by rfl) ?_; dsimp only)); refine box_event ?hg (N := 7) ?hd (cs := #[.int .i64 0, .int .i64 0, .int .i64 0, .string (⟨#[]⟩ : ByteArray)]) (t := 35) ?hr ?_; (case hd => rfl); (case hg => rfl); (case hr => first | (go_simp; done) | (go_simp; rfl)); intro gb242 hg w25 hbox hb; have n0_ := Am (blk_below (g := gb239) (o := .cells #[.int .i64 a0_0, .int .i64 a0_1, .int .i64 a0_2, .string a0_3] 23 (0, 0)) (by (with_reducible repeat (first | refine bn ?_ _ | refine bd ?_ | refine ba ?_ _)); exact BK239.out) hb); have n1_ := Am (blk_below (g := gb240) (o := .cells #[.int .i64 0, .int .i64 0, .int .i64 0, .string (⟨#[]⟩ : ByteArray)] 35 (0, 0)) (by (with_reducible repeat (first | refine bn ?_ _ | refine bd ?_ | refine ba ?_ _)); exact BK240.out) hb); have n2_ := Am (blk_below (g := gb241) (o := .cells #[.int .i64 0, .int .i64 0, .int .i64 0, .string (⟨#[]⟩ : ByteArray)] 23 (0, 0)) (by (with_reducible repeat (first | refine bn ?_ _ | refine bd ?_ | refine ba ?_ _)); exact BK241.out) hb); have n3_ := Am (below_step (by repeat (first | (with_reducible first | exact HB.out | apply bl | apply pN | apply b1 | refine bs ?_ GE239.out | refine bs ?_ GE240.out | refine bs ?_ GE241.out) | exact HB.out | exact HBo.out)) hb); have n4_ := Am (hbox); have n5_ := Am ((by rw [hg]; exact (below_size (by repeat (first | (with_reducible first | exact HB.out | apply bl | apply pN | apply b1 | refine bs ?_ GE239.out | refine bs ?_ GE240.out | refine bs ?_ GE241.out) | exact HB.out | exact HBo.out))) : w.heap.size ≤ gb242)); have n6_ := Am ((by rw [hg]; exact (below_size (by repeat (first | (with_reducible first | exact HB.out | apply bl | apply pN | apply b1 | refine bs ?_ GE239.out | refine bs ?_ GE240.out | refine bs ?_ GE241.out) | exact HB.out | exact HBo.out))) : w.heap.size ≤ gb242)); have n7_ := Am ((by rw [hg]; exact Nat.ne_of_lt (blk_lt (g := gb239) (o := .cells #[.int .i64 a0_0, .int .i64 a0_1, .int .i64 a0_2, .string a0_3] 23 (0, 0)) (by (with_reducible repeat (first | refine bn ?_ _ | refine bd ?_ | refine ba ?_ _)); exact BK239.out)) : gb239 ≠ gb242)); have n8_ := Am ((by rw [hg]; exact Nat.ne_of_gt (blk_lt (g := gb239) (o := .cells #[.int .i64 a0_0, .int .i64 a0_1, .int .i64 a0_2, .string a0_3] 23 (0, 0)) (by (with_reducible repeat (first | refine bn ?_ _ | refine bd ?_ | refine ba ?_ _)); exact BK239.out)) : gb242 ≠ gb239)); have n9_ := Am ((by rw [hg]; exact Nat.ne_of_lt (blk_lt (g := gb240) (o := .cells #[.int .i64 0, .int .i64 0, .int .i64 0, .string (⟨#[]⟩ : ByteArray)] 35 (0, 0)) (by (with_reducible repeat (first | refine bn ?_ _ | refine bd ?_ | refine ba ?_ _)); exact BK240.out)) : gb240 ≠ gb242)); have n10_ := Am ((by rw [hg]; exact Nat.ne_of_gt (blk_lt (g := gb240) (o := .cells #[.int .i64 0, .int .i64 0, .int .i64 0, .string (⟨#[]⟩ : ByteArray)] 35 (0, 0)) (by (with_reducible repeat (first | refine bn ?_ _ | refine bd ?_ | refine ba ?_ _)); exact BK240.out)) : gb242 ≠ gb240)); have n11_ := Am ((by rw [hg]; exact Nat.ne_of_lt (blk_lt (g := gb241) (o := .cells #[.int .i64 0, .int .i64 0, .int .i64 0, .string (⟨#[]⟩ : ByteArray)] 23 (0, 0)) (by (with_reducible repeat (first | refine bn ?_ _ | refine bd ?_ | refine ba ?_ _)); exact BK241.out)) : gb241 ≠ gb242)); have n12_ := Am ((by rw [hg]; exact Nat.ne_of_gt (blk_lt (g := gb241) (o := .cells #[.int .i64 0, .int .i64 0, .int .i64 0, .string (⟨#[]⟩ : ByteArray)] 23 (0, 0)) (by (with_reducible repeat (first | refine bn ?_ _ | refine bd ?_ | refine ba ?_ _)); exact BK241.out)) : gb242 ≠ gb241)); clear BK239; clear BK240; clear BK241; clear HB; have BK239 := n0_; have BK240 := n1_; have BK241 := n2_; have HB := n3_; have BK242 := n4_; have GW242 := n5_; have GE242 := n6_; have NB239_242 := n7_; have NB242_239 := n8_; have NB240_242 := n9_; have NB242_240 := n10_; have NB241_242 := n11_; have NB242_241 := n12_; clear n0_ n1_ n2_ n3_ n4_ n5_ n6_ n7_ n8_ n9_ n10_ n11_ n12_; clear hb hbox hg; have hnb26 := NB242_239.out; have hnc26 := NB239_242.out; have hnb27 := NB242_240.out; have hnc27 := NB240_242.out; have hnb28 := NB242_241.out; have hnc28 := NB241_242.out; have hcz29_0 : w25.cell? ⟨gb242, 0, none⟩ = some (.int .i64 0) := (bc BK242.out 0).trans rfl; have hcz29_1 : w25.cell? ⟨gb242, 1, none⟩ = some (.int .i64 0) := (bc BK242.out 1).trans rfl; have hcz29_2 : w25.cell? ⟨gb242, 2, none⟩ = some (.int .i64 0) := (bc BK242.out 2).trans rfl; have hcz29_3 : w25.cell? ⟨gb242, 3, none⟩ = some (.string (⟨#[]⟩ : ByteArray)) := (bc BK242.out 3).trans rfl; have hfz29_0 := bf BK242.out 0; have hfz29_1 := bf BK242.out 1; have hfz29_2 := bf BK242.out 2; have hfz29_3 := bf BK242.out 3) | ((with_reducible refine gate_callee (f := 24) rfl ?_); refine goesL_ (some 29) rfl rfl Try.func24 (by kernel_rfl) rfl #[.agg #[.int .i64 a1, .int .i64 (wrap64 (a0_0 + 1)), .int .i64 a0_1, .string a0_3]] rfl (by (try simp only [List.map_toArray, List.map_cons, List.map_nil]); first | done | rfl | (simp only [List.length_drop, List.length_take]; rfl)) ?_; (with_reducible refine (shuttlecockref05_May.calls a1 (wrap64 (a0_0 + 1)) a0_1 a0_3 true _ A20.out).mono ?_); rintro e w30 ⟨rfl, hb⟩; refine ⟨_, rfl, ?_⟩; have n0_ := Am (blk_below (g := gb239) (o := .cells #[.int .i64 a0_0, .int .i64 a0_1, .int .i64 a0_2, .string a0_3] 23 (0, 0)) (by (with_reducible repeat (first | refine bn ?_ _ | refine bd ?_ | refine ba ?_ _)); refine blk_far ?_ NB239_242.out _; (with_reducible repeat (first | refine bn ?_ _ | refine bd ?_ | refine ba ?_ _)); refine blk_far ?_ NB239_242.out _; (with_reducible repeat (first | refine bn ?_ _ | refine bd ?_ | refine ba ?_ _)); refine blk_far ?_ NB239_242.out _; (with_reducible repeat (first | refine bn ?_ _ | refine bd ?_ | refine ba ?_ _)); refine blk_far ?_ NB239_242.out _; (with_reducible repeat (first | refine bn ?_ _ | refine bd ?_ | refine ba ?_ _)); exact BK239.out) hb); have n1_ := Am (blk_below (g := gb240) (o := .cells #[.int .i64 0, .int .i64 0, .int .i64 0, .string (⟨#[]⟩ : ByteArray)] 35 (0, 0)) (by (with_reducible repeat (first | refine bn ?_ _ | refine bd ?_ | refine ba ?_ _)); refine blk_far ?_ NB240_242.out _; (with_reducible repeat (first | refine bn ?_ _ | refine bd ?_ | refine ba ?_ _)); refine blk_far ?_ NB240_242.out _; (with_reducible repeat (first | refine bn ?_ _ | refine bd ?_ | refine ba ?_ _)); refine blk_far ?_ NB240_242.out _; (with_reducible repeat (first | refine bn ?_ _ | refine bd ?_ | refine ba ?_ _)); refine blk_far ?_ NB240_242.out _; (with_reducible repeat (first | refine bn ?_ _ | refine bd ?_ | refine ba ?_ _)); exact BK240.out) hb); have n2_ := Am (blk_below (g := gb241) (o := .cells #[.int .i64 0, .int .i64 0, .int .i64 0, .string (⟨#[]⟩ : ByteArray)] 23 (0, 0)) (by (with_reducible repeat (first | refine bn ?_ _ | refine bd ?_ | refine ba ?_ _)); refine blk_far ?_ NB241_242.out _; (with_reducible repeat (first | refine bn ?_ _ | refine bd ?_ | refine ba ?_ _)); refine blk_far ?_ NB241_242.out _; (with_reducible repeat (first | refine bn ?_ _ | refine bd ?_ | refine ba ?_ _)); refine blk_far ?_ NB241_242.out _; (with_reducible repeat (first | refine bn ?_ _ | refine bd ?_ | refine ba ?_ _)); refine blk_far ?_ NB241_242.out _; (with_reducible repeat (first | refine bn ?_ _ | refine bd ?_ | refine ba ?_ _)); exact BK241.out) hb); have n3_ := Am (blk_below (g := gb242) (o := .cells #[.int .i64 a1, .int .i64 (wrap64 (a0_0 + 1)), .int .i64 a0_1, .string a0_3] 35 (0, 0)) (by (with_reducible repeat (first | refine bn ?_ _ | refine bd ?_ | refine ba ?_ _)); refine blk_put (cs := #[.int .i64 a1, .int .i64 (wrap64 (a0_0 + 1)), .int .i64 a0_1, .string (⟨#[]⟩ : ByteArray)]) ?_ 3 _ rfl; (with_reducible repeat (first | refine bn ?_ _ | refine bd ?_ | refine ba ?_ _)); refine blk_put (cs := #[.int .i64 a1, .int .i64 (wrap64 (a0_0 + 1)), .int .i64 0, .string (⟨#[]⟩ : ByteArray)]) ?_ 2 _ rfl; (with_reducible repeat (first | refine bn ?_ _ | refine bd ?_ | refine ba ?_ _)); refine blk_put (cs := #[.int .i64 a1, .int .i64 0, .int .i64 0, .string (⟨#[]⟩ : ByteArray)]) ?_ 1 _ rfl; (with_reducible repeat (first | refine bn ?_ _ | refine bd ?_ | refine ba ?_ _)); refine blk_put (cs := #[.int .i64 0, .int .i64 0, .int .i64 0, .string (⟨#[]⟩ : ByteArray)]) ?_ 0 _ rfl; (with_reducible repeat (first | refine bn ?_ _ | refine bd ?_ | refine ba ?_ _)); exact BK242.out) hb); have n4_ := Am (below_step (by repeat (first | (with_reducible first | exact HB.out | apply bl | apply pN | apply b1 | refine bs ?_ GE239.out | refine bs ?_ GE240.out | refine bs ?_ GE241.out | refine bs ?_ GE242.out) | exact HB.out | exact HBo.out)) hb); clear BK239; clear BK240; clear BK241; clear BK242; clear HB; have BK239 := n0_; have BK240 := n1_; have BK241 := n2_; have BK242 := n3_; have HB := n4_; clear n0_ n1_ n2_ n3_ n4_; (try clear hb); (try clear hb2); (try clear hk); (try clear hi)))
     have n0_ := Am (bd BK239.out)
     have n1_ := Am (bd BK240.out)
     have n2_ := Am (bd BK241.out)
     have n3_ := Am (bd BK242.out)
     have n4_ := Am (b1 HB.out)
     clear BK239
     clear BK240
     clear BK241
     clear BK242
     clear HB
     have BK239 := n0_
     have BK240 := n1_
     have BK241 := n2_
     have BK242 := n3_
     have HB := n4_
     clear n0_ n1_ n2_ n3_ n4_
     refine start_ (n := 7) (S := fun w' => w'.cell? ⟨gb242, 0, none⟩ = some (.int .i64 a1) ∧ w'.cell? ⟨gb242, 1, none⟩ = some (.int .i64 (wrap64 (a0_0 + 1))) ∧ w'.cell? ⟨gb242, 2, none⟩ = some (.int .i64 a0_1) ∧ w'.cell? ⟨gb242, 3, none⟩ = some (.string a0_3) ∧ w'.cell? ⟨gb239, 0, none⟩ = some (.int .i64 a0_0) ∧ w'.cell? ⟨gb239, 1, none⟩ = some (.int .i64 a0_1) ∧ w'.cell? ⟨gb239, 2, none⟩ = some (.int .i64 a0_2) ∧ w'.cell? ⟨gb239, 3, none⟩ = some (.string a0_3)) (ds := []) q12_0 (by kernel_rfl) rfl rfl ⟨(bc BK242.out 0).trans rfl, (bc BK242.out 1).trans rfl, (bc BK242.out 2).trans rfl, (bc BK242.out 3).trans rfl, (bc BK239.out 0).trans rfl, (bc BK239.out 1).trans rfl, (bc BK239.out 2).trans rfl, (bc BK239.out 3).trans rfl⟩ (fun hHeld => ?_)
     generalize w30.drew = w31 at BK239 BK240 BK241 BK242 HB hHeld ⊢
     refine pure_ (i := 1) (N := some 34) (v := ?_) (a' := ?_) q12_1 rfl rfl (by kernel_rfl) (fun _ _ _ h => h) (Or.inl ⟨by rfl, ?_⟩) ?_ ?_
     rotate_left
     ·
      intro w'
      go_simp
      with_reducible rfl
     rotate_left
     ·
      simp only [Act.put, sI, sZ, sS, i64_w, i32_w]
      rfl
     refine take_ (i := 0) (N := some 33) (v := ?_) (a' := ?_) q12_2 rfl rfl (by kernel_rfl) (fun _ _ _ h => h) (Or.inl ⟨by rfl, ?_⟩) hHeld ?_ ?_
     rotate_left
     ·
      rintro w' ⟨s0, s1, s2, s3, s4, s5, s6, s7⟩
      go_simp
      with_reducible rfl
     rotate_left
     ·
      simp only [Act.put, sI, sZ, sS, i64_w, i32_w]
      rfl
     refine take_ (i := 2) (N := some 35) (v := ?_) (a' := ?_) q12_3 rfl rfl (by kernel_rfl) (fun _ _ _ h => h) (Or.inl ⟨by rfl, ?_⟩) hHeld ?_ ?_
     rotate_left
     ·
      rintro w' ⟨s0, s1, s2, s3, s4, s5, s6, s7⟩
      go_simp
      with_reducible rfl
     rotate_left
     ·
      simp only [Act.put, sI, sZ, sS, i64_w, i32_w]
      rfl
     refine pure_ (i := 3) (N := some 36) (v := ?_) (a' := ?_) q12_4 rfl rfl (by kernel_rfl) (fun _ _ _ h => h) (Or.inl ⟨by rfl, ?_⟩) ?_ ?_
     rotate_left
     ·
      intro w'
      go_simp
      with_reducible rfl
     rotate_left
     ·
      simp only [Act.put, sI, sZ, sS, i64_w, i32_w]
      rfl
     refine one_ (i := 4) (N := none) q12_5 rfl rfl (by kernel_rfl) (by decide) (fun K hK => ?_)
     have hs32 : w31.cell? ⟨gb240, 0, none⟩ = some (.int .i64 0) := (bc BK240.out 0).trans rfl
     have hfs32 := bf BK240.out 0
     have hns32_0 := NB239_240.out
     have hns32_2 := NB241_240.out
     have hns32_3 := NB242_240.out
     have hms32_0 := NB240_239.out
     have hms32_2 := NB240_241.out
     have hms32_3 := NB240_242.out
     have hs33 : w31.cell? ⟨gb240, 1, none⟩ = some (.int .i64 0) := (bc BK240.out 1).trans rfl
     have hfs33 := bf BK240.out 1
     have hns33_0 := NB239_240.out
     have hns33_2 := NB241_240.out
     have hns33_3 := NB242_240.out
     have hms33_0 := NB240_239.out
     have hms33_2 := NB240_241.out
     have hms33_3 := NB240_242.out
     have hs34 : w31.cell? ⟨gb240, 2, none⟩ = some (.int .i64 0) := (bc BK240.out 2).trans rfl
     have hfs34 := bf BK240.out 2
     have hns34_0 := NB239_240.out
     have hns34_2 := NB241_240.out
     have hns34_3 := NB242_240.out
     have hms34_0 := NB240_239.out
     have hms34_2 := NB240_241.out
     have hms34_3 := NB240_242.out
     have hs35 : w31.cell? ⟨gb240, 3, none⟩ = some (.string (⟨#[]⟩ : ByteArray)) := (bc BK240.out 3).trans rfl
     have hfs35 := bf BK240.out 3
     have hns35_0 := NB239_240.out
     have hns35_2 := NB241_240.out
     have hns35_3 := NB242_240.out
     have hms35_0 := NB240_239.out
     have hms35_2 := NB240_241.out
     have hms35_3 := NB240_242.out
     refine skip_ (w1 := ?_) (by rfl) rfl ?_ ?_
     rotate_left
     ·
      go_simp
      rfl
     refine hK.out _ _ ⟨((cell_far (p := ⟨gb240, _, none⟩) NB242_240.out _).trans (((cell_far (p := ⟨gb240, _, none⟩) NB242_240.out _).trans (((cell_far (p := ⟨gb240, _, none⟩) NB242_240.out _).trans (((cell_far (p := ⟨gb240, _, none⟩) NB242_240.out _).trans (hHeld.1)))))))), ((cell_far (p := ⟨gb240, _, none⟩) NB242_240.out _).trans (((cell_far (p := ⟨gb240, _, none⟩) NB242_240.out _).trans (((cell_far (p := ⟨gb240, _, none⟩) NB242_240.out _).trans (((cell_far (p := ⟨gb240, _, none⟩) NB242_240.out _).trans (hHeld.2.1)))))))), ((cell_far (p := ⟨gb240, _, none⟩) NB242_240.out _).trans (((cell_far (p := ⟨gb240, _, none⟩) NB242_240.out _).trans (((cell_far (p := ⟨gb240, _, none⟩) NB242_240.out _).trans (((cell_far (p := ⟨gb240, _, none⟩) NB242_240.out _).trans (hHeld.2.2.1)))))))), ((cell_far (p := ⟨gb240, _, none⟩) NB242_240.out _).trans (((cell_far (p := ⟨gb240, _, none⟩) NB242_240.out _).trans (((cell_far (p := ⟨gb240, _, none⟩) NB242_240.out _).trans (((cell_far (p := ⟨gb240, _, none⟩) NB242_240.out _).trans (hHeld.2.2.2.1)))))))), ((cell_far (p := ⟨gb240, _, none⟩) NB239_240.out _).trans (((cell_far (p := ⟨gb240, _, none⟩) NB239_240.out _).trans (((cell_far (p := ⟨gb240, _, none⟩) NB239_240.out _).trans (((cell_far (p := ⟨gb240, _, none⟩) NB239_240.out _).trans (hHeld.2.2.2.2.1)))))))), ((cell_far (p := ⟨gb240, _, none⟩) NB239_240.out _).trans (((cell_far (p := ⟨gb240, _, none⟩) NB239_240.out _).trans (((cell_far (p := ⟨gb240, _, none⟩) NB239_240.out _).trans (((cell_far (p := ⟨gb240, _, none⟩) NB239_240.out _).trans (hHeld.2.2.2.2.2.1)))))))), ((cell_far (p := ⟨gb240, _, none⟩) NB239_240.out _).trans (((cell_far (p := ⟨gb240, _, none⟩) NB239_240.out _).trans (((cell_far (p := ⟨gb240, _, none⟩) NB239_240.out _).trans (((cell_far (p := ⟨gb240, _, none⟩) NB239_240.out _).trans (hHeld.2.2.2.2.2.2.1)))))))), ((cell_far (p := ⟨gb240, _, none⟩) NB239_240.out _).trans (((cell_far (p := ⟨gb240, _, none⟩) NB239_240.out _).trans (((cell_far (p := ⟨gb240, _, none⟩) NB239_240.out _).trans (((cell_far (p := ⟨gb240, _, none⟩) NB239_240.out _).trans (hHeld.2.2.2.2.2.2.2))))))))⟩ (fun hHeld => ?_)
     clear hK K
     refine one_ (i := 5) (N := none) q12_6 rfl rfl (by kernel_rfl) (by decide) (fun K hK => ?_)
     have hs36 : w31.cell? ⟨gb241, 0, none⟩ = some (.int .i64 0) := (bc BK241.out 0).trans rfl
     have hfs36 := bf BK241.out 0
     have hns36_0 := NB239_241.out
     have hns36_1 := NB240_241.out
     have hns36_3 := NB242_241.out
     have hms36_0 := NB241_239.out
     have hms36_1 := NB241_240.out
     have hms36_3 := NB241_242.out
     have hs37 : w31.cell? ⟨gb241, 1, none⟩ = some (.int .i64 0) := (bc BK241.out 1).trans rfl
     have hfs37 := bf BK241.out 1
     have hns37_0 := NB239_241.out
     have hns37_1 := NB240_241.out
     have hns37_3 := NB242_241.out
     have hms37_0 := NB241_239.out
     have hms37_1 := NB241_240.out
     have hms37_3 := NB241_242.out
     have hs38 : w31.cell? ⟨gb241, 2, none⟩ = some (.int .i64 0) := (bc BK241.out 2).trans rfl
     have hfs38 := bf BK241.out 2
     have hns38_0 := NB239_241.out
     have hns38_1 := NB240_241.out
     have hns38_3 := NB242_241.out
     have hms38_0 := NB241_239.out
     have hms38_1 := NB241_240.out
     have hms38_3 := NB241_242.out
     have hs39 : w31.cell? ⟨gb241, 3, none⟩ = some (.string (⟨#[]⟩ : ByteArray)) := (bc BK241.out 3).trans rfl
     have hfs39 := bf BK241.out 3
     have hns39_0 := NB239_241.out
     have hns39_1 := NB240_241.out
     have hns39_3 := NB242_241.out
     have hms39_0 := NB241_239.out
     have hms39_1 := NB241_240.out
     have hms39_3 := NB241_242.out
     refine skip_ (w1 := ?_) (by rfl) rfl ?_ ?_
     rotate_left
     ·
      go_simp
      rfl
     refine hK.out _ _ ⟨((cell_far (p := ⟨gb241, _, none⟩) NB242_241.out _).trans (((cell_far (p := ⟨gb241, _, none⟩) NB242_241.out _).trans (((cell_far (p := ⟨gb241, _, none⟩) NB242_241.out _).trans (((cell_far (p := ⟨gb241, _, none⟩) NB242_241.out _).trans (hHeld.1)))))))), ((cell_far (p := ⟨gb241, _, none⟩) NB242_241.out _).trans (((cell_far (p := ⟨gb241, _, none⟩) NB242_241.out _).trans (((cell_far (p := ⟨gb241, _, none⟩) NB242_241.out _).trans (((cell_far (p := ⟨gb241, _, none⟩) NB242_241.out _).trans (hHeld.2.1)))))))), ((cell_far (p := ⟨gb241, _, none⟩) NB242_241.out _).trans (((cell_far (p := ⟨gb241, _, none⟩) NB242_241.out _).trans (((cell_far (p := ⟨gb241, _, none⟩) NB242_241.out _).trans (((cell_far (p := ⟨gb241, _, none⟩) NB242_241.out _).trans (hHeld.2.2.1)))))))), ((cell_far (p := ⟨gb241, _, none⟩) NB242_241.out _).trans (((cell_far (p := ⟨gb241, _, none⟩) NB242_241.out _).trans (((cell_far (p := ⟨gb241, _, none⟩) NB242_241.out _).trans (((cell_far (p := ⟨gb241, _, none⟩) NB242_241.out _).trans (hHeld.2.2.2.1)))))))), ((cell_far (p := ⟨gb241, _, none⟩) NB239_241.out _).trans (((cell_far (p := ⟨gb241, _, none⟩) NB239_241.out _).trans (((cell_far (p := ⟨gb241, _, none⟩) NB239_241.out _).trans (((cell_far (p := ⟨gb241, _, none⟩) NB239_241.out _).trans (hHeld.2.2.2.2.1)))))))), ((cell_far (p := ⟨gb241, _, none⟩) NB239_241.out _).trans (((cell_far (p := ⟨gb241, _, none⟩) NB239_241.out _).trans (((cell_far (p := ⟨gb241, _, none⟩) NB239_241.out _).trans (((cell_far (p := ⟨gb241, _, none⟩) NB239_241.out _).trans (hHeld.2.2.2.2.2.1)))))))), ((cell_far (p := ⟨gb241, _, none⟩) NB239_241.out _).trans (((cell_far (p := ⟨gb241, _, none⟩) NB239_241.out _).trans (((cell_far (p := ⟨gb241, _, none⟩) NB239_241.out _).trans (((cell_far (p := ⟨gb241, _, none⟩) NB239_241.out _).trans (hHeld.2.2.2.2.2.2.1)))))))), ((cell_far (p := ⟨gb241, _, none⟩) NB239_241.out _).trans (((cell_far (p := ⟨gb241, _, none⟩) NB239_241.out _).trans (((cell_far (p := ⟨gb241, _, none⟩) NB239_241.out _).trans (((cell_far (p := ⟨gb241, _, none⟩) NB239_241.out _).trans (hHeld.2.2.2.2.2.2.2))))))))⟩ (fun hHeld => ?_)
     clear hK K
     refine pure_ (i := 6) (N := some 6) (v := ?_) (a' := ?_) q12_7 rfl rfl (by kernel_rfl) (fun _ _ _ h => h) (Or.inl ⟨by rfl, ?_⟩) ?_ ?_
     rotate_left
     ·
      intro w'
      go_simp
      with_reducible rfl
     rotate_left
     ·
      simp only [Act.put, sI, sZ, sS, i64_w, i32_w]
      rfl
     refine done_ (by kernel_rfl) ?_
     try go_wp2
     refine bodyPost_ret (results_list (rs := [.cell 4 35, .cell 5 23, .tmp 6]) rfl (by simp) (.cell gb240 35 #[.int .i64 a1, .int .i64 (wrap64 (a0_0 + 1)), .int .i64 a0_1, .string a0_3] (0, 0) _ rfl (by (with_reducible repeat (first | refine bn ?_ _ | refine bd ?_ | refine ba ?_ _)); refine blk_far ?_ NB240_241.out _; (with_reducible repeat (first | refine bn ?_ _ | refine bd ?_ | refine ba ?_ _)); refine blk_far ?_ NB240_241.out _; (with_reducible repeat (first | refine bn ?_ _ | refine bd ?_ | refine ba ?_ _)); refine blk_far ?_ NB240_241.out _; (with_reducible repeat (first | refine bn ?_ _ | refine bd ?_ | refine ba ?_ _)); refine blk_far ?_ NB240_241.out _; (with_reducible repeat (first | refine bn ?_ _ | refine bd ?_ | refine ba ?_ _)); refine blk_put (cs := #[.int .i64 a1, .int .i64 (wrap64 (a0_0 + 1)), .int .i64 a0_1, .string (⟨#[]⟩ : ByteArray)]) ?_ 3 _ rfl; (with_reducible repeat (first | refine bn ?_ _ | refine bd ?_ | refine ba ?_ _)); refine blk_put (cs := #[.int .i64 a1, .int .i64 (wrap64 (a0_0 + 1)), .int .i64 0, .string (⟨#[]⟩ : ByteArray)]) ?_ 2 _ rfl; (with_reducible repeat (first | refine bn ?_ _ | refine bd ?_ | refine ba ?_ _)); refine blk_put (cs := #[.int .i64 a1, .int .i64 0, .int .i64 0, .string (⟨#[]⟩ : ByteArray)]) ?_ 1 _ rfl; (with_reducible repeat (first | refine bn ?_ _ | refine bd ?_ | refine ba ?_ _)); refine blk_put (cs := #[.int .i64 0, .int .i64 0, .int .i64 0, .string (⟨#[]⟩ : ByteArray)]) ?_ 0 _ rfl; (with_reducible repeat (first | refine bn ?_ _ | refine bd ?_ | refine ba ?_ _)); exact BK240.out) Try.underlying35 rfl (by kernel_rfl) (.cell gb241 23 #[.int .i64 a0_0, .int .i64 0, .int .i64 0, .string (⟨#[]⟩ : ByteArray)] (0, 0) _ rfl (by (with_reducible repeat (first | refine bn ?_ _ | refine bd ?_ | refine ba ?_ _)); refine blk_put (cs := #[.int .i64 a0_0, .int .i64 0, .int .i64 0, .string (⟨#[]⟩ : ByteArray)]) ?_ 3 _ rfl; (with_reducible repeat (first | refine bn ?_ _ | refine bd ?_ | refine ba ?_ _)); refine blk_put (cs := #[.int .i64 a0_0, .int .i64 0, .int .i64 0, .string (⟨#[]⟩ : ByteArray)]) ?_ 2 _ rfl; (with_reducible repeat (first | refine bn ?_ _ | refine bd ?_ | refine ba ?_ _)); refine blk_put (cs := #[.int .i64 a0_0, .int .i64 0, .int .i64 0, .string (⟨#[]⟩ : ByteArray)]) ?_ 1 _ rfl; (with_reducible repeat (first | refine bn ?_ _ | refine bd ?_ | refine ba ?_ _)); refine blk_put (cs := #[.int .i64 0, .int .i64 0, .int .i64 0, .string (⟨#[]⟩ : ByteArray)]) ?_ 0 _ rfl; (with_reducible repeat (first | refine bn ?_ _ | refine bd ?_ | refine ba ?_ _)); refine blk_far ?_ NB241_240.out _; (with_reducible repeat (first | refine bn ?_ _ | refine bd ?_ | refine ba ?_ _)); refine blk_far ?_ NB241_240.out _; (with_reducible repeat (first | refine bn ?_ _ | refine bd ?_ | refine ba ?_ _)); refine blk_far ?_ NB241_240.out _; (with_reducible repeat (first | refine bn ?_ _ | refine bd ?_ | refine ba ?_ _)); refine blk_far ?_ NB241_240.out _; (with_reducible repeat (first | refine bn ?_ _ | refine bd ?_ | refine ba ?_ _)); exact BK241.out) Try.underlying23 rfl (by kernel_rfl) (.tmp .nil)))) rfl ?_
     exact ⟨by first | rfl | (simp [errW_none, errW_some] <;> rfl) | (simp [*, errW_none, errW_some] <;> rfl) | (simp [Aid.ne_nil, Aid.eq_nil, errW_none, errW_some]; done), by repeat (first | (with_reducible first | exact HB.out | apply bl | apply pN | apply b1 | refine bs ?_ GE239.out | refine bs ?_ GE240.out | refine bs ?_ GE241.out | refine bs ?_ GE242.out) | exact HB.out | exact HBo.out)⟩
    ·
     replace c21 := Bool.eq_false_iff.mpr c21
     subst c21
     have H1 : (some (0, 0, 0, (⟨#[]⟩ : ByteArray), 0, 0, 0, (⟨#[]⟩ : ByteArray), false)) = some (r1, r2, r3, r4, r5, r6, r7, r8, r9) := by rw [if_neg (show ¬ (false = true) by decide)] at H; exact H
     clear H
     have H := H1
     clear H1
     simp only [Option.some.injEq, Prod.mk.injEq] at H
     obtain ⟨rfl, rfl, rfl, rfl, rfl, rfl, rfl, rfl, rfl⟩ := H
     have hnb40 := NB239_240.out
     have hnc40 := NB240_239.out
     have hnb41 := NB239_241.out
     have hnc41 := NB241_239.out
     have hcz42_0 : wc.cell? ⟨gb239, 0, none⟩ = some (.int .i64 a0_0) := (bc BK239.out 0).trans rfl
     have hcz42_1 : wc.cell? ⟨gb239, 1, none⟩ = some (.int .i64 a0_1) := (bc BK239.out 1).trans rfl
     have hcz42_2 : wc.cell? ⟨gb239, 2, none⟩ = some (.int .i64 a0_2) := (bc BK239.out 2).trans rfl
     have hcz42_3 : wc.cell? ⟨gb239, 3, none⟩ = some (.string a0_3) := (bc BK239.out 3).trans rfl
     have hfz42_0 := bf BK239.out 0
     have hfz42_1 := bf BK239.out 1
     have hfz42_2 := bf BK239.out 2
     have hfz42_3 := bf BK239.out 3
     go_wp2_with (first | ((with_reducible refine gate_dst (N := 7) rfl ?_); (try (refine gate_guard (by rfl) ?_; dsimp only)); refine box_event ?hg (N := 7) ?hd (cs := #[.int .i64 0, .int .i64 0, .int .i64 0, .string (⟨#[]⟩ : ByteArray)]) (t := 35) ?hr ?_; (case hd => rfl); (case hg => rfl); (case hr => first | (go_simp; done) | (go_simp; rfl)); intro gb242 hg w43 hbox hb; have n0_ := Am (blk_below (g := gb239) (o := .cells #[.int .i64 a0_0, .int .i64 a0_1, .int .i64 a0_2, .string a0_3] 23 (0, 0)) (by (with_reducible repeat (first | refine bn ?_ _ | refine bd ?_ | refine ba ?_ _)); exact BK239.out) hb); have n1_ := Am (blk_below (g := gb240) (o := .cells #[.int .i64 0, .int .i64 0, .int .i64 0, .string (⟨#[]⟩ : ByteArray)] 35 (0, 0)) (by (with_reducible repeat (first | refine bn ?_ _ | refine bd ?_ | refine ba ?_ _)); exact BK240.out) hb); have n2_ := Am (blk_below (g := gb241) (o := .cells #[.int .i64 0, .int .i64 0, .int .i64 0, .string (⟨#[]⟩ : ByteArray)] 23 (0, 0)) (by (with_reducible repeat (first | refine bn ?_ _ | refine bd ?_ | refine ba ?_ _)); exact BK241.out) hb); have n3_ := Am (below_step (by repeat (first | (with_reducible first | exact HB.out | apply bl | apply pN | apply b1 | refine bs ?_ GE239.out | refine bs ?_ GE240.out | refine bs ?_ GE241.out) | exact HB.out | exact HBo.out)) hb); have n4_ := Am (hbox); have n5_ := Am ((by rw [hg]; exact (below_size (by repeat (first | (with_reducible first | exact HB.out | apply bl | apply pN | apply b1 | refine bs ?_ GE239.out | refine bs ?_ GE240.out | refine bs ?_ GE241.out) | exact HB.out | exact HBo.out))) : w.heap.size ≤ gb242)); have n6_ := Am ((by rw [hg]; exact (below_size (by repeat (first | (with_reducible first | exact HB.out | apply bl | apply pN | apply b1 | refine bs ?_ GE239.out | refine bs ?_ GE240.out | refine bs ?_ GE241.out) | exact HB.out | exact HBo.out))) : w.heap.size ≤ gb242)); have n7_ := Am ((by rw [hg]; exact Nat.ne_of_lt (blk_lt (g := gb239) (o := .cells #[.int .i64 a0_0, .int .i64 a0_1, .int .i64 a0_2, .string a0_3] 23 (0, 0)) (by (with_reducible repeat (first | refine bn ?_ _ | refine bd ?_ | refine ba ?_ _)); exact BK239.out)) : gb239 ≠ gb242)); have n8_ := Am ((by rw [hg]; exact Nat.ne_of_gt (blk_lt (g := gb239) (o := .cells #[.int .i64 a0_0, .int .i64 a0_1, .int .i64 a0_2, .string a0_3] 23 (0, 0)) (by (with_reducible repeat (first | refine bn ?_ _ | refine bd ?_ | refine ba ?_ _)); exact BK239.out)) : gb242 ≠ gb239)); have n9_ := Am ((by rw [hg]; exact Nat.ne_of_lt (blk_lt (g := gb240) (o := .cells #[.int .i64 0, .int .i64 0, .int .i64 0, .string (⟨#[]⟩ : ByteArray)] 35 (0, 0)) (by (with_reducible repeat (first | refine bn ?_ _ | refine bd ?_ | refine ba ?_ _)); exact BK240.out)) : gb240 ≠ gb242)); have n10_ := Am ((by rw [hg]; exact Nat.ne_of_gt (blk_lt (g := gb240) (o := .cells #[.int .i64 0, .int .i64 0, .int .i64 0, .string (⟨#[]⟩ : ByteArray)] 35 (0, 0)) (by (with_reducible repeat (first | refine bn ?_ _ | refine bd ?_ | refine ba ?_ _)); exact BK240.out)) : gb242 ≠ gb240)); have n11_ := Am ((by rw [hg]; exact Nat.ne_of_lt (blk_lt (g := gb241) (o := .cells #[.int .i64 0, .int .i64 0, .int .i64 0, .string (⟨#[]⟩ : ByteArray)] 23 (0, 0)) (by (with_reducible repeat (first | refine bn ?_ _ | refine bd ?_ | refine ba ?_ _)); exact BK241.out)) : gb241 ≠ gb242)); have n12_ := Am ((by rw [hg]; exact Nat.ne_of_gt (blk_lt (g := gb241) (o := .cells #[.int .i64 0, .int .i64 0, .int .i64 0, .string (⟨#[]⟩ : ByteArray)] 23 (0, 0)) (by (with_reducible repeat (first | refine bn ?_ _ | refine bd ?_ | refine ba ?_ _)); exact BK241.out)) : gb242 ≠ gb241)); clear BK239; clear BK240; clear BK241; clear HB; have BK239 := n0_; have BK240 := n1_; have BK241 := n2_; have HB := n3_; have BK242 := n4_; have GW242 := n5_; have GE242 := n6_; have NB239_242 := n7_; have NB242_239 := n8_; have NB240_242 := n9_; have NB242_240 := n10_; have NB241_242 := n11_; have NB242_241 := n12_; clear n0_ n1_ n2_ n3_ n4_ n5_ n6_ n7_ n8_ n9_ n10_ n11_ n12_; clear hb hbox hg; have hnb44 := NB242_239.out; have hnc44 := NB239_242.out; have hnb45 := NB242_240.out; have hnc45 := NB240_242.out; have hnb46 := NB242_241.out; have hnc46 := NB241_242.out; have hcz47_0 : w43.cell? ⟨gb242, 0, none⟩ = some (.int .i64 0) := (bc BK242.out 0).trans rfl; have hcz47_1 : w43.cell? ⟨gb242, 1, none⟩ = some (.int .i64 0) := (bc BK242.out 1).trans rfl; have hcz47_2 : w43.cell? ⟨gb242, 2, none⟩ = some (.int .i64 0) := (bc BK242.out 2).trans rfl; have hcz47_3 : w43.cell? ⟨gb242, 3, none⟩ = some (.string (⟨#[]⟩ : ByteArray)) := (bc BK242.out 3).trans rfl; have hfz47_0 := bf BK242.out 0; have hfz47_1 := bf BK242.out 1; have hfz47_2 := bf BK242.out 2; have hfz47_3 := bf BK242.out 3) | ((with_reducible refine gate_callee (f := 24) rfl ?_); refine goesL_ (some 29) rfl rfl Try.func24 (by kernel_rfl) rfl #[.agg #[.int .i64 a1, .int .i64 (wrap64 (a0_0 + 1)), .int .i64 a0_1, .string a0_3]] rfl (by (try simp only [List.map_toArray, List.map_cons, List.map_nil]); first | done | rfl | (simp only [List.length_drop, List.length_take]; rfl)) ?_; (with_reducible refine (shuttlecockref05_May.calls a1 (wrap64 (a0_0 + 1)) a0_1 a0_3 false _ A20.out).mono ?_); rintro e w48 ⟨rfl, hb⟩; refine ⟨_, rfl, ?_⟩; have n0_ := Am (blk_below (g := gb239) (o := .cells #[.int .i64 a0_0, .int .i64 a0_1, .int .i64 a0_2, .string a0_3] 23 (0, 0)) (by (with_reducible repeat (first | refine bn ?_ _ | refine bd ?_ | refine ba ?_ _)); refine blk_far ?_ NB239_242.out _; (with_reducible repeat (first | refine bn ?_ _ | refine bd ?_ | refine ba ?_ _)); refine blk_far ?_ NB239_242.out _; (with_reducible repeat (first | refine bn ?_ _ | refine bd ?_ | refine ba ?_ _)); refine blk_far ?_ NB239_242.out _; (with_reducible repeat (first | refine bn ?_ _ | refine bd ?_ | refine ba ?_ _)); refine blk_far ?_ NB239_242.out _; (with_reducible repeat (first | refine bn ?_ _ | refine bd ?_ | refine ba ?_ _)); exact BK239.out) hb); have n1_ := Am (blk_below (g := gb240) (o := .cells #[.int .i64 0, .int .i64 0, .int .i64 0, .string (⟨#[]⟩ : ByteArray)] 35 (0, 0)) (by (with_reducible repeat (first | refine bn ?_ _ | refine bd ?_ | refine ba ?_ _)); refine blk_far ?_ NB240_242.out _; (with_reducible repeat (first | refine bn ?_ _ | refine bd ?_ | refine ba ?_ _)); refine blk_far ?_ NB240_242.out _; (with_reducible repeat (first | refine bn ?_ _ | refine bd ?_ | refine ba ?_ _)); refine blk_far ?_ NB240_242.out _; (with_reducible repeat (first | refine bn ?_ _ | refine bd ?_ | refine ba ?_ _)); refine blk_far ?_ NB240_242.out _; (with_reducible repeat (first | refine bn ?_ _ | refine bd ?_ | refine ba ?_ _)); exact BK240.out) hb); have n2_ := Am (blk_below (g := gb241) (o := .cells #[.int .i64 0, .int .i64 0, .int .i64 0, .string (⟨#[]⟩ : ByteArray)] 23 (0, 0)) (by (with_reducible repeat (first | refine bn ?_ _ | refine bd ?_ | refine ba ?_ _)); refine blk_far ?_ NB241_242.out _; (with_reducible repeat (first | refine bn ?_ _ | refine bd ?_ | refine ba ?_ _)); refine blk_far ?_ NB241_242.out _; (with_reducible repeat (first | refine bn ?_ _ | refine bd ?_ | refine ba ?_ _)); refine blk_far ?_ NB241_242.out _; (with_reducible repeat (first | refine bn ?_ _ | refine bd ?_ | refine ba ?_ _)); refine blk_far ?_ NB241_242.out _; (with_reducible repeat (first | refine bn ?_ _ | refine bd ?_ | refine ba ?_ _)); exact BK241.out) hb); have n3_ := Am (blk_below (g := gb242) (o := .cells #[.int .i64 a1, .int .i64 (wrap64 (a0_0 + 1)), .int .i64 a0_1, .string a0_3] 35 (0, 0)) (by (with_reducible repeat (first | refine bn ?_ _ | refine bd ?_ | refine ba ?_ _)); refine blk_put (cs := #[.int .i64 a1, .int .i64 (wrap64 (a0_0 + 1)), .int .i64 a0_1, .string (⟨#[]⟩ : ByteArray)]) ?_ 3 _ rfl; (with_reducible repeat (first | refine bn ?_ _ | refine bd ?_ | refine ba ?_ _)); refine blk_put (cs := #[.int .i64 a1, .int .i64 (wrap64 (a0_0 + 1)), .int .i64 0, .string (⟨#[]⟩ : ByteArray)]) ?_ 2 _ rfl; (with_reducible repeat (first | refine bn ?_ _ | refine bd ?_ | refine ba ?_ _)); refine blk_put (cs := #[.int .i64 a1, .int .i64 0, .int .i64 0, .string (⟨#[]⟩ : ByteArray)]) ?_ 1 _ rfl; (with_reducible repeat (first | refine bn ?_ _ | refine bd ?_ | refine ba ?_ _)); refine blk_put (cs := #[.int .i64 0, .int .i64 0, .int .i64 0, .string (⟨#[]⟩ : ByteArray)]) ?_ 0 _ rfl; (with_reducible repeat (first | refine bn ?_ _ | refine bd ?_ | refine ba ?_ _)); exact BK242.out) hb); have n4_ := Am (below_step (by repeat (first | (with_reducible first | exact HB.out | apply bl | apply pN | apply b1 | refine bs ?_ GE239.out | refine bs ?_ GE240.out | refine bs ?_ GE241.out | refine bs ?_ GE242.out) | exact HB.out | exact HBo.out)) hb); clear BK239; clear BK240; clear BK241; clear BK242; clear HB; have BK239 := n0_; have BK240 := n1_; have BK241 := n2_; have BK242 := n3_; have HB := n4_; clear n0_ n1_ n2_ n3_ n4_; (try clear hb); (try clear hb2); (try clear hk); (try clear hi); have hnb49 := NB240_241.out; have hnc49 := NB241_240.out; have hcz50_0 : w48.cell? ⟨gb240, 0, none⟩ = some (.int .i64 0) := (bc BK240.out 0).trans rfl; have hcz50_1 : w48.cell? ⟨gb240, 1, none⟩ = some (.int .i64 0) := (bc BK240.out 1).trans rfl; have hcz50_2 : w48.cell? ⟨gb240, 2, none⟩ = some (.int .i64 0) := (bc BK240.out 2).trans rfl; have hcz50_3 : w48.cell? ⟨gb240, 3, none⟩ = some (.string (⟨#[]⟩ : ByteArray)) := (bc BK240.out 3).trans rfl; have hfz50_0 := bf BK240.out 0; have hfz50_1 := bf BK240.out 1; have hfz50_2 := bf BK240.out 2; have hfz50_3 := bf BK240.out 3; have hcz51_0 : w48.cell? ⟨gb241, 0, none⟩ = some (.int .i64 0) := (bc BK241.out 0).trans rfl; have hcz51_1 : w48.cell? ⟨gb241, 1, none⟩ = some (.int .i64 0) := (bc BK241.out 1).trans rfl; have hcz51_2 : w48.cell? ⟨gb241, 2, none⟩ = some (.int .i64 0) := (bc BK241.out 2).trans rfl; have hcz51_3 : w48.cell? ⟨gb241, 3, none⟩ = some (.string (⟨#[]⟩ : ByteArray)) := (bc BK241.out 3).trans rfl; have hfz51_0 := bf BK241.out 0; have hfz51_1 := bf BK241.out 1; have hfz51_2 := bf BK241.out 2; have hfz51_3 := bf BK241.out 3))
     refine bodyPost_ret (results_list (rs := [.cell 4 35, .cell 5 23, .tmp 6]) rfl (by simp) (.cell gb240 35 #[.int .i64 0, .int .i64 0, .int .i64 0, .string (⟨#[]⟩ : ByteArray)] (0, 0) _ rfl (by (with_reducible repeat (first | refine bn ?_ _ | refine bd ?_ | refine ba ?_ _)); refine blk_far ?_ NB240_241.out _; (with_reducible repeat (first | refine bn ?_ _ | refine bd ?_ | refine ba ?_ _)); refine blk_far ?_ NB240_241.out _; (with_reducible repeat (first | refine bn ?_ _ | refine bd ?_ | refine ba ?_ _)); refine blk_far ?_ NB240_241.out _; (with_reducible repeat (first | refine bn ?_ _ | refine bd ?_ | refine ba ?_ _)); refine blk_far ?_ NB240_241.out _; (with_reducible repeat (first | refine bn ?_ _ | refine bd ?_ | refine ba ?_ _)); refine blk_put (cs := #[.int .i64 0, .int .i64 0, .int .i64 0, .string (⟨#[]⟩ : ByteArray)]) ?_ 3 _ rfl; (with_reducible repeat (first | refine bn ?_ _ | refine bd ?_ | refine ba ?_ _)); refine blk_put (cs := #[.int .i64 0, .int .i64 0, .int .i64 0, .string (⟨#[]⟩ : ByteArray)]) ?_ 2 _ rfl; (with_reducible repeat (first | refine bn ?_ _ | refine bd ?_ | refine ba ?_ _)); refine blk_put (cs := #[.int .i64 0, .int .i64 0, .int .i64 0, .string (⟨#[]⟩ : ByteArray)]) ?_ 1 _ rfl; (with_reducible repeat (first | refine bn ?_ _ | refine bd ?_ | refine ba ?_ _)); refine blk_put (cs := #[.int .i64 0, .int .i64 0, .int .i64 0, .string (⟨#[]⟩ : ByteArray)]) ?_ 0 _ rfl; (with_reducible repeat (first | refine bn ?_ _ | refine bd ?_ | refine ba ?_ _)); exact BK240.out) Try.underlying35 rfl (by kernel_rfl) (.cell gb241 23 #[.int .i64 0, .int .i64 0, .int .i64 0, .string (⟨#[]⟩ : ByteArray)] (0, 0) _ rfl (by (with_reducible repeat (first | refine bn ?_ _ | refine bd ?_ | refine ba ?_ _)); refine blk_put (cs := #[.int .i64 0, .int .i64 0, .int .i64 0, .string (⟨#[]⟩ : ByteArray)]) ?_ 3 _ rfl; (with_reducible repeat (first | refine bn ?_ _ | refine bd ?_ | refine ba ?_ _)); refine blk_put (cs := #[.int .i64 0, .int .i64 0, .int .i64 0, .string (⟨#[]⟩ : ByteArray)]) ?_ 2 _ rfl; (with_reducible repeat (first | refine bn ?_ _ | refine bd ?_ | refine ba ?_ _)); refine blk_put (cs := #[.int .i64 0, .int .i64 0, .int .i64 0, .string (⟨#[]⟩ : ByteArray)]) ?_ 1 _ rfl; (with_reducible repeat (first | refine bn ?_ _ | refine bd ?_ | refine ba ?_ _)); refine blk_put (cs := #[.int .i64 0, .int .i64 0, .int .i64 0, .string (⟨#[]⟩ : ByteArray)]) ?_ 0 _ rfl; (with_reducible repeat (first | refine bn ?_ _ | refine bd ?_ | refine ba ?_ _)); refine blk_far ?_ NB241_240.out _; (with_reducible repeat (first | refine bn ?_ _ | refine bd ?_ | refine ba ?_ _)); refine blk_far ?_ NB241_240.out _; (with_reducible repeat (first | refine bn ?_ _ | refine bd ?_ | refine ba ?_ _)); refine blk_far ?_ NB241_240.out _; (with_reducible repeat (first | refine bn ?_ _ | refine bd ?_ | refine ba ?_ _)); refine blk_far ?_ NB241_240.out _; (with_reducible repeat (first | refine bn ?_ _ | refine bd ?_ | refine ba ?_ _)); exact BK241.out) Try.underlying23 rfl (by kernel_rfl) (.tmp .nil)))) rfl ?_
     exact ⟨by first | rfl | (simp [errW_none, errW_some] <;> rfl) | (simp [*, errW_none, errW_some] <;> rfl) | (simp [Aid.ne_nil, Aid.eq_nil, errW_none, errW_some]; done), by repeat (first | (with_reducible first | exact HB.out | apply bl | apply pN | apply b1 | refine bs ?_ GE239.out | refine bs ?_ GE240.out | refine bs ?_ GE241.out | refine bs ?_ GE242.out) | exact HB.out | exact HBo.out)⟩

end Go.Proofs.Ytgpnkgmghnmmjaa.Q
