-- printed by a program of this session (NOTES: hprint); not the kit's print
-- minified
-- halved
import Derived.Test.YtlmmlmmbnfcogaaAl
import Derived.Test.YtlmmlmmbnfcogaaQx0
import Derived.Test.YtlmmlmmbnfcogaaQx2
import Derived.Test.YtlmmlmmbnfcogaaQx7
import Derived.Test.YtlmmlmmbnfcogaaQx8
import Derived.Test.YtlmmlmmbnfcogaaQx9
import Derived.Test.YtlmmlmmbnfcogaaQx11
namespace Go.Proofs.Ytlmmlmmbnfcogaa.Q
open Go.RowKit Go.Proofs.YtlmmlmmbnfcogaaW.PrintWords Go.Proofs.YtlmmlmmbnfcogaaW.PrintLast Go.Proofs.YtlmmlmmbnfcogaaW.PrintMore
attribute [local go_sem] max2_int min2_int max_two min_two max_three min_three max_four min_four   -- for this text's walks alone
set_option linter.unusedVariables false
set_option linter.unusedSimpArgs false

def q12_0 : Array Bool := let o := true; let z := false; #[z,z,z,z,z,z]
def q12_1 : Array Bool := let o := true; let z := false; #[o,z,z,z,z,z]
def q12_2 : Array Bool := let o := true; let z := false; #[o,z,o,z,z,z]
def q12_3 : Array Bool := let o := true; let z := false; #[o,o,o,z,z,z]
def q12_4 : Array Bool := let o := true; let z := false; #[o,o,o,o,z,z]
def q12_5 : Array Bool := let o := true; let z := false; #[o,o,o,o,o,z]
def q12_6 : Array Bool := let o := true; let z := false; #[o,o,o,o,o,o]
/-! ### shuttlecocklaw07_TableApart: function 5 -/
def shuttlecocklaw07_TableApart.j0 : Nat → Bool → List ByteArray → List (List (S70)) → List ByteArray → List (List (S70)) → Option (Bool)
 | 0, _, _, _, _, _ => none
 | k + 1, x18, x203000, x203001, x204000, x204001 => if x18 = true then ((shuttlecocklaw07_fixed.f k).bind fun t207 => (some t207)) else ((table_Encode.f k x203000 x203001).bind fun t208 => ((table_Encode.f k x204000 x204001).bind fun t209 => ((shuttlecockref06_May.f k x203000 x203001).bind fun t210 => (if t208.toList = ([] : List UInt8) then (if t210 = true then (none) else ((shuttlecockref06_May.f k x204000 x204001).bind fun t211 => (if t209.toList = ([] : List UInt8) then (if t211 = true then (none) else (some true)) else (if t211 = true then (some true) else (none))))) else (if t210 = true then ((shuttlecockref06_May.f k x204000 x204001).bind fun t212 => (if t209.toList = ([] : List UInt8) then (if t212 = true then (none) else (some true)) else (if t212 = true then ((shuttlecockref06_Same.f k x203000 x203001 x204000 x204001).bind fun t213 => (if t208.toList = t209.toList then (if t213 = true then (some true) else (none)) else (if t213 = true then (none) else (some true)))) else (none)))) else (none))))))
def shuttlecocklaw07_TableApart.f (k : Nat) (l0_0 : List ByteArray) (l0_1 : List (List (S70))) (l1_0 : List ByteArray) (l1_1 : List (List (S70))) : Option (Bool) := (shuttlecocklaw07_fixed.f k).bind fun t204 => (if t204 = true then ((shuttlecockref06_Small.f k l0_0 l0_1).bind fun t205 => (if t205 = true then ((shuttlecockref06_Small.f k l1_0 l1_1).bind fun t206 => (shuttlecocklaw07_TableApart.j0 k (!t206) l0_0 l0_1 l1_0 l1_1)) else (shuttlecocklaw07_TableApart.j0 k true l0_0 l0_1 l1_0 l1_1))) else (shuttlecocklaw07_TableApart.j0 k true l0_0 l0_1 l1_0 l1_1))
theorem shuttlecocklaw07_TableApart.mono_l : ∀ k, (∀ y0 y1 y2 y3 y4, LeO (shuttlecocklaw07_TableApart.j0 k y0 y1 y2 y3 y4) (shuttlecocklaw07_TableApart.j0 (k + 1) y0 y1 y2 y3 y4))
 | 0 => fun _ _ _ _ _ r h => by simp [shuttlecocklaw07_TableApart.j0] at h
 | k + 1 => by
  have ih0 := shuttlecocklaw07_TableApart.mono_l k
  ·
   intro y0 y1 y2 y3 y4
   unfold shuttlecocklaw07_TableApart.j0
   repeat' first
   | (with_reducible exact ih0 _ _ _ _ _)
   | (with_reducible exact shuttlecocklaw07_fixed.mono _)
   | (with_reducible exact shuttlecockref06_May.mono _ _ _)
   | (with_reducible exact shuttlecockref06_Same.mono _ _ _ _ _)
   | (with_reducible exact shuttlecockref06_Small.mono _ _ _)
   | (with_reducible exact table_Encode.mono _ _ _)
   | (with_reducible exact LeO.refl _)
   | (with_reducible exact LeO.none _)
   | (with_reducible refine LeO.ite ?_ ?_)
   | (with_reducible refine LeO.bind ?_ (fun _ => ?_))
   | exact ih0 _ _ _ _ _
   | exact shuttlecocklaw07_fixed.mono _
   | exact shuttlecockref06_May.mono _ _ _
   | exact shuttlecockref06_Same.mono _ _ _ _ _
   | exact shuttlecockref06_Small.mono _ _ _
   | exact table_Encode.mono _ _ _
   | exact LeO.none _
   | refine LeO.ite ?_ ?_
   | refine LeO.bind ?_ (fun _ => ?_)
theorem shuttlecocklaw07_TableApart.mono : ∀ a0 a1 a2 a3 k, LeO (shuttlecocklaw07_TableApart.f k a0 a1 a2 a3) (shuttlecocklaw07_TableApart.f (k + 1) a0 a1 a2 a3) := by
 intro a0 a1 a2 a3 k
 have ih0 := shuttlecocklaw07_TableApart.mono_l k
 unfold shuttlecocklaw07_TableApart.f
 repeat' first
   | (with_reducible exact ih0 _ _ _ _ _)
   | (with_reducible exact shuttlecocklaw07_fixed.mono _)
   | (with_reducible exact shuttlecockref06_May.mono _ _ _)
   | (with_reducible exact shuttlecockref06_Same.mono _ _ _ _ _)
   | (with_reducible exact shuttlecockref06_Small.mono _ _ _)
   | (with_reducible exact table_Encode.mono _ _ _)
   | (with_reducible exact LeO.refl _)
   | (with_reducible exact LeO.none _)
   | (with_reducible refine LeO.ite ?_ ?_)
   | (with_reducible refine LeO.bind ?_ (fun _ => ?_))
   | exact ih0 _ _ _ _ _
   | exact shuttlecocklaw07_fixed.mono _
   | exact shuttlecockref06_May.mono _ _ _
   | exact shuttlecockref06_Same.mono _ _ _ _ _
   | exact shuttlecockref06_Small.mono _ _ _
   | exact table_Encode.mono _ _ _
   | exact LeO.none _
   | refine LeO.ite ?_ ?_
   | refine LeO.bind ?_ (fun _ => ?_)
set_option maxHeartbeats 8000000 in
set_option maxRecDepth 100000 in
theorem shuttlecocklaw07_TableApart.calls (k : Nat) (A0_0 : Option Addr) (c0_0 : Nat) (l0_0 : List ByteArray) (A0_1 : Option Addr) (c0_1 : Nat) (l0_1 : List (List (S70))) (A1_0 : Option Addr) (c1_0 : Nat) (l1_0 : List ByteArray) (A1_1 : Option Addr) (c1_1 : Nat) (l1_1 : List (List (S70))) (r : Bool) (w : World) (hr0_0 : Kd.C Kd.string w A0_0 l0_0.length l0_0) (hc0_0 : l0_0.length ≤ c0_0) (hr0_1 : Kd.C (Kd.slice 70 k70) w A0_1 l0_1.length l0_1) (hc0_1 : l0_1.length ≤ c0_1) (hr1_0 : Kd.C Kd.string w A1_0 l1_0.length l1_0) (hc1_0 : l1_0.length ≤ c1_0) (hr1_1 : Kd.C (Kd.slice 70 k70) w A1_1 l1_1.length l1_1) (hc1_1 : l1_1.length ≤ c1_1) (h : shuttlecocklaw07_TableApart.f k l0_0 l0_1 l1_0 l1_1 = some r) :
  Calls Try.prog 5 #[.agg #[.slice A0_0 l0_0.length c0_0, .slice A0_1 l0_1.length c0_1], .agg #[.slice A1_0 l1_0.length c1_0, .slice A1_1 l1_1.length c1_1]] w fun e w' => e = .returned (.bool r) ∧ Below w.heap.size w w' := by
 have hu25 := Try.underlying25
 have HR0_0 := Am hr0_0
 have HC0_0 := Am hc0_0
 clear hr0_0 hc0_0
 have HR0_1 := Am hr0_1
 have HC0_1 := Am hc0_1
 clear hr0_1 hc0_1
 have HR1_0 := Am hr1_0
 have HC1_0 := Am hc1_0
 clear hr1_0 hc1_0
 have HR1_1 := Am hr1_1
 have HC1_1 := Am hc1_1
 clear hr1_1 hc1_1
 have HB := Am (Below.refl w.heap.size w)
 have H : ((shuttlecocklaw07_fixed.f k).bind fun t204 => (if t204 = true then ((shuttlecockref06_Small.f k l0_0 l0_1).bind fun t205 => (if t205 = true then ((shuttlecockref06_Small.f k l1_0 l1_1).bind fun t206 => (shuttlecocklaw07_TableApart.j0 k (!t206) l0_0 l0_1 l1_0 l1_1)) else (shuttlecocklaw07_TableApart.j0 k true l0_0 l0_1 l1_0 l1_1))) else (shuttlecocklaw07_TableApart.j0 k true l0_0 l0_1 l1_0 l1_1))) = some r := h
 clear h
 have HC3 := Am H
 clear H
 go_enter Try.func5, Try.ntmps5
 go_upto_region 1 with (first | ((with_reducible refine gate_dst (N := 2) rfl ?_); refine box_event ?hg (N := 2) ?hd (cs := #[.slice A0_0 l0_0.length c0_0, .slice A0_1 l0_1.length c0_1]) (t := 25) ?hr ?_; (case hd => rfl); (case hg => rfl); (case hr => first | (go_simp; done) | (go_simp; rfl)); intro gb202 hg w4 hbox hb; have n0_ := Am (below_step (by repeat (first | (with_reducible first | exact HB.out | apply bl | apply pN | apply b1) | exact HB.out | exact HBo.out)) hb); have n1_ := Am (hbox); have n2_ := Am ((by rw [hg]; exact (below_size (by repeat (first | (with_reducible first | exact HB.out | apply bl | apply pN | apply b1) | exact HB.out | exact HBo.out))) : w.heap.size ≤ gb202)); have n3_ := Am ((by rw [hg]; exact (below_size (by repeat (first | (with_reducible first | exact HB.out | apply bl | apply pN | apply b1) | exact HB.out | exact HBo.out))) : w.heap.size ≤ gb202)); clear HB; have HB := n0_; have BK202 := n1_; have GW202 := n2_; have GE202 := n3_; clear n0_ n1_ n2_ n3_; clear hb hbox hg) | ((with_reducible refine gate_dst (N := 3) rfl ?_); refine box_event ?hg (N := 3) ?hd (cs := #[.slice A1_0 l1_0.length c1_0, .slice A1_1 l1_1.length c1_1]) (t := 25) ?hr ?_; (case hd => rfl); (case hg => rfl); (case hr => first | (go_simp; done) | (go_simp; rfl)); intro gb203 hg w5 hbox hb; have n0_ := Am (blk_below (g := gb202) (o := .cells #[.slice A0_0 l0_0.length c0_0, .slice A0_1 l0_1.length c0_1] 25 (0, 0)) (by (with_reducible repeat (first | refine bn ?_ _ | refine bd ?_ | refine ba ?_ _)); exact BK202.out) hb); have n1_ := Am (below_step (by repeat (first | (with_reducible first | exact HB.out | apply bl | apply pN | apply b1 | refine bs ?_ GE202.out) | exact HB.out | exact HBo.out)) hb); have n2_ := Am (hbox); have n3_ := Am ((by rw [hg]; exact (below_size (by repeat (first | (with_reducible first | exact HB.out | apply bl | apply pN | apply b1 | refine bs ?_ GE202.out) | exact HB.out | exact HBo.out))) : w.heap.size ≤ gb203)); have n4_ := Am ((by rw [hg]; exact (below_size (by repeat (first | (with_reducible first | exact HB.out | apply bl | apply pN | apply b1 | refine bs ?_ GE202.out) | exact HB.out | exact HBo.out))) : w.heap.size ≤ gb203)); have n5_ := Am ((by rw [hg]; exact Nat.ne_of_lt (blk_lt (g := gb202) (o := .cells #[.slice A0_0 l0_0.length c0_0, .slice A0_1 l0_1.length c0_1] 25 (0, 0)) (by (with_reducible repeat (first | refine bn ?_ _ | refine bd ?_ | refine ba ?_ _)); exact BK202.out)) : gb202 ≠ gb203)); have n6_ := Am ((by rw [hg]; exact Nat.ne_of_gt (blk_lt (g := gb202) (o := .cells #[.slice A0_0 l0_0.length c0_0, .slice A0_1 l0_1.length c0_1] 25 (0, 0)) (by (with_reducible repeat (first | refine bn ?_ _ | refine bd ?_ | refine ba ?_ _)); exact BK202.out)) : gb203 ≠ gb202)); clear BK202; clear HB; have BK202 := n0_; have HB := n1_; have BK203 := n2_; have GW203 := n3_; have GE203 := n4_; have NB202_203 := n5_; have NB203_202 := n6_; clear n0_ n1_ n2_ n3_ n4_ n5_ n6_; clear hb hbox hg))
 (try simp only [Act.put, sI, sZ, sS])
 go_cut [18] (fun v18 wc => ∃ (kq : Nat) (x18_2 : Bool), v18 = .bool x18_2 ∧ Aside0 (shuttlecocklaw07_TableApart.j0 kq x18_2 l0_0 l0_1 l1_0 l1_1 = some r) ∧ Aside0 (kq ≤ k) ∧ Aside0 (wc.heap[gb202]? = some (.cells #[(.slice A0_0 l0_0.length c0_0), (.slice A0_1 l0_1.length c0_1)] 25 (0, 0))) ∧ Aside0 (wc.heap[gb203]? = some (.cells #[(.slice A1_0 l1_0.length c1_0), (.slice A1_1 l1_1.length c1_1)] 25 (0, 0))) ∧ Aside0 (Below w.heap.size w wc))
 case first =>
  have H := HC3.out
  clear HC3
  replace H := ob H
  obtain ⟨t204, A60, H⟩ := H
  replace H : (if t204 = true then ((shuttlecockref06_Small.f k l0_0 l0_1).bind fun t205 => (if t205 = true then ((shuttlecockref06_Small.f k l1_0 l1_1).bind fun t206 => (shuttlecocklaw07_TableApart.j0 k (!t206) l0_0 l0_1 l1_0 l1_1)) else (shuttlecocklaw07_TableApart.j0 k true l0_0 l0_1 l1_0 l1_1))) else (shuttlecocklaw07_TableApart.j0 k true l0_0 l0_1 l1_0 l1_1)) = some r := H
  have A6 := Am A60
  clear A60
  by_cases c7 : t204 = true
  ·
   subst c7
   have H1 : ((shuttlecockref06_Small.f k l0_0 l0_1).bind fun t205 => (if t205 = true then ((shuttlecockref06_Small.f k l1_0 l1_1).bind fun t206 => (shuttlecocklaw07_TableApart.j0 k (!t206) l0_0 l0_1 l1_0 l1_1)) else (shuttlecocklaw07_TableApart.j0 k true l0_0 l0_1 l1_0 l1_1))) = some r := by rw [if_pos rfl] at H; exact H
   clear H
   have H := H1
   clear H1
   replace H := ob H
   obtain ⟨t205, A80, H⟩ := H
   replace H : (if t205 = true then ((shuttlecockref06_Small.f k l1_0 l1_1).bind fun t206 => (shuttlecocklaw07_TableApart.j0 k (!t206) l0_0 l0_1 l1_0 l1_1)) else (shuttlecocklaw07_TableApart.j0 k true l0_0 l0_1 l1_0 l1_1)) = some r := H
   have A8 := Am A80
   clear A80
   by_cases c9 : t205 = true
   ·
    subst c9
    have H1 : ((shuttlecockref06_Small.f k l1_0 l1_1).bind fun t206 => (shuttlecocklaw07_TableApart.j0 k (!t206) l0_0 l0_1 l1_0 l1_1)) = some r := by rw [if_pos rfl] at H; exact H
    clear H
    have H := H1
    clear H1
    replace H := ob H
    obtain ⟨t206, A100, H⟩ := H
    replace H : (shuttlecocklaw07_TableApart.j0 k (!t206) l0_0 l0_1 l1_0 l1_1) = some r := H
    have A10 := Am A100
    clear A100
    have H' := Am H
    clear H
    go_wp2_with (first | ((with_reducible refine gate_callee (f := 8) rfl ?_); refine goesL_ (some 7) rfl rfl Try.func8 (by kernel_rfl) rfl #[] rfl (by (try simp only [List.map_toArray, List.map_cons, List.map_nil]); first | done | rfl | (simp only [List.length_drop, List.length_take]; rfl)) ?_; (with_reducible refine (shuttlecocklaw07_fixed.calls k  true _ A6.out).mono ?_); rintro e w11 ⟨rfl, hb⟩; refine ⟨_, rfl, ?_⟩; have n0_ := Am (blk_below (g := gb202) (o := .cells #[.slice A0_0 l0_0.length c0_0, .slice A0_1 l0_1.length c0_1] 25 (0, 0)) (by (with_reducible repeat (first | refine bn ?_ _ | refine bd ?_ | refine ba ?_ _)); exact BK202.out) hb); have n1_ := Am (blk_below (g := gb203) (o := .cells #[.slice A1_0 l1_0.length c1_0, .slice A1_1 l1_1.length c1_1] 25 (0, 0)) (by (with_reducible repeat (first | refine bn ?_ _ | refine bd ?_ | refine ba ?_ _)); exact BK203.out) hb); have n2_ := Am (below_step (by repeat (first | (with_reducible first | exact HB.out | apply bl | apply pN | apply b1 | refine bs ?_ GE202.out | refine bs ?_ GE203.out) | exact HB.out | exact HBo.out)) hb); clear BK202; clear BK203; clear HB; have BK202 := n0_; have BK203 := n1_; have HB := n2_; clear n0_ n1_ n2_; (try clear hb); (try clear hb2); (try clear hk); (try clear hi); have hnb12 := NB202_203.out; have hnc12 := NB203_202.out; have hcz13_0 : w11.cell? ⟨gb202, 0, none⟩ = some (.slice A0_0 l0_0.length c0_0) := (bc BK202.out 0).trans rfl; have hcz13_1 : w11.cell? ⟨gb202, 1, none⟩ = some (.slice A0_1 l0_1.length c0_1) := (bc BK202.out 1).trans rfl; have hfz13_0 := bf BK202.out 0; have hfz13_1 := bf BK202.out 1) | (go_at_call 7; (with_reducible refine (shuttlecockref06_Small.calls k _ _ l0_0 _ _ l0_1 true _ ?side1 ?side2 ?side3 ?side4 A8.out).mono ?_); (case side1 => repeat (first | exact (Kd.C_below HR0_0.out HB.out) | (with_reducible refine Kd.C_alloc ?_ _) | (with_reducible refine Kd.C_drewN ?_ _) | (with_reducible refine Kd.C_drew ?_))); (case side2 => exact HC0_0.out); (case side3 => repeat (first | exact (Kd.C_below HR0_1.out HB.out) | (with_reducible refine Kd.C_alloc ?_ _) | (with_reducible refine Kd.C_drewN ?_ _) | (with_reducible refine Kd.C_drew ?_))); (case side4 => exact HC0_1.out); rintro e w14 ⟨rfl, hb⟩; have n0_ := Am (blk_below (g := gb202) (o := .cells #[.slice A0_0 l0_0.length c0_0, .slice A0_1 l0_1.length c0_1] 25 (0, 0)) (by (with_reducible repeat (first | refine bn ?_ _ | refine bd ?_ | refine ba ?_ _)); exact BK202.out) hb); have n1_ := Am (blk_below (g := gb203) (o := .cells #[.slice A1_0 l1_0.length c1_0, .slice A1_1 l1_1.length c1_1] 25 (0, 0)) (by (with_reducible repeat (first | refine bn ?_ _ | refine bd ?_ | refine ba ?_ _)); exact BK203.out) hb); have n2_ := Am (below_step (by repeat (first | (with_reducible first | exact HB.out | apply bl | apply pN | apply b1 | refine bs ?_ GE202.out | refine bs ?_ GE203.out) | exact HB.out | exact HBo.out)) hb); clear BK202; clear BK203; clear HB; have BK202 := n0_; have BK203 := n1_; have HB := n2_; clear n0_ n1_ n2_; (try clear hb); (try clear hb2); (try clear hk); (try clear hi); have hcz15_0 : w14.cell? ⟨gb203, 0, none⟩ = some (.slice A1_0 l1_0.length c1_0) := (bc BK203.out 0).trans rfl; have hcz15_1 : w14.cell? ⟨gb203, 1, none⟩ = some (.slice A1_1 l1_1.length c1_1) := (bc BK203.out 1).trans rfl; have hfz15_0 := bf BK203.out 0; have hfz15_1 := bf BK203.out 1) | (go_at_call 7; (with_reducible refine (shuttlecockref06_Small.calls k _ _ l1_0 _ _ l1_1 t206 _ ?side1 ?side2 ?side3 ?side4 A10.out).mono ?_); (case side1 => repeat (first | exact (Kd.C_below HR1_0.out HB.out) | (with_reducible refine Kd.C_alloc ?_ _) | (with_reducible refine Kd.C_drewN ?_ _) | (with_reducible refine Kd.C_drew ?_))); (case side2 => exact HC1_0.out); (case side3 => repeat (first | exact (Kd.C_below HR1_1.out HB.out) | (with_reducible refine Kd.C_alloc ?_ _) | (with_reducible refine Kd.C_drewN ?_ _) | (with_reducible refine Kd.C_drew ?_))); (case side4 => exact HC1_1.out); rintro e w16 ⟨rfl, hb⟩; have n0_ := Am (blk_below (g := gb202) (o := .cells #[.slice A0_0 l0_0.length c0_0, .slice A0_1 l0_1.length c0_1] 25 (0, 0)) (by (with_reducible repeat (first | refine bn ?_ _ | refine bd ?_ | refine ba ?_ _)); exact BK202.out) hb); have n1_ := Am (blk_below (g := gb203) (o := .cells #[.slice A1_0 l1_0.length c1_0, .slice A1_1 l1_1.length c1_1] 25 (0, 0)) (by (with_reducible repeat (first | refine bn ?_ _ | refine bd ?_ | refine ba ?_ _)); exact BK203.out) hb); have n2_ := Am (below_step (by repeat (first | (with_reducible first | exact HB.out | apply bl | apply pN | apply b1 | refine bs ?_ GE202.out | refine bs ?_ GE203.out) | exact HB.out | exact HBo.out)) hb); clear BK202; clear BK203; clear HB; have BK202 := n0_; have BK203 := n1_; have HB := n2_; clear n0_ n1_ n2_; (try clear hb); (try clear hb2); (try clear hk); (try clear hi)))
    go_meet
    case rel => exact ⟨_, (!t206), (by first | rfl | (simp; done) | (simp [*]; done) | (simp; generalize ByteArray.toList _ = l_; cases l_ <;> rfl)), H', ⟨by first | omega | exact Nat.le_refl _⟩, ⟨by (with_reducible repeat (first | refine bn ?_ _ | refine bd ?_ | refine ba ?_ _)); exact BK202.out⟩, ⟨by (with_reducible repeat (first | refine bn ?_ _ | refine bd ?_ | refine ba ?_ _)); exact BK203.out⟩, ⟨by repeat (first | (with_reducible first | exact HB.out | apply bl | apply pN | apply b1 | refine bs ?_ GE202.out | refine bs ?_ GE203.out) | exact HB.out | exact HBo.out)⟩⟩
   ·
    replace c9 := Bool.eq_false_iff.mpr c9
    subst c9
    have H1 : (shuttlecocklaw07_TableApart.j0 k true l0_0 l0_1 l1_0 l1_1) = some r := by rw [if_neg (show ¬ (false = true) by decide)] at H; exact H
    clear H
    have H := H1
    clear H1
    have H' := Am H
    clear H
    go_wp2_with (first | ((with_reducible refine gate_callee (f := 8) rfl ?_); refine goesL_ (some 7) rfl rfl Try.func8 (by kernel_rfl) rfl #[] rfl (by (try simp only [List.map_toArray, List.map_cons, List.map_nil]); first | done | rfl | (simp only [List.length_drop, List.length_take]; rfl)) ?_; (with_reducible refine (shuttlecocklaw07_fixed.calls k  true _ A6.out).mono ?_); rintro e w17 ⟨rfl, hb⟩; refine ⟨_, rfl, ?_⟩; have n0_ := Am (blk_below (g := gb202) (o := .cells #[.slice A0_0 l0_0.length c0_0, .slice A0_1 l0_1.length c0_1] 25 (0, 0)) (by (with_reducible repeat (first | refine bn ?_ _ | refine bd ?_ | refine ba ?_ _)); exact BK202.out) hb); have n1_ := Am (blk_below (g := gb203) (o := .cells #[.slice A1_0 l1_0.length c1_0, .slice A1_1 l1_1.length c1_1] 25 (0, 0)) (by (with_reducible repeat (first | refine bn ?_ _ | refine bd ?_ | refine ba ?_ _)); exact BK203.out) hb); have n2_ := Am (below_step (by repeat (first | (with_reducible first | exact HB.out | apply bl | apply pN | apply b1 | refine bs ?_ GE202.out | refine bs ?_ GE203.out) | exact HB.out | exact HBo.out)) hb); clear BK202; clear BK203; clear HB; have BK202 := n0_; have BK203 := n1_; have HB := n2_; clear n0_ n1_ n2_; (try clear hb); (try clear hb2); (try clear hk); (try clear hi); have hnb18 := NB202_203.out; have hnc18 := NB203_202.out; have hcz19_0 : w17.cell? ⟨gb202, 0, none⟩ = some (.slice A0_0 l0_0.length c0_0) := (bc BK202.out 0).trans rfl; have hcz19_1 : w17.cell? ⟨gb202, 1, none⟩ = some (.slice A0_1 l0_1.length c0_1) := (bc BK202.out 1).trans rfl; have hfz19_0 := bf BK202.out 0; have hfz19_1 := bf BK202.out 1) | (go_at_call 7; (with_reducible refine (shuttlecockref06_Small.calls k _ _ l0_0 _ _ l0_1 false _ ?side1 ?side2 ?side3 ?side4 A8.out).mono ?_); (case side1 => repeat (first | exact (Kd.C_below HR0_0.out HB.out) | (with_reducible refine Kd.C_alloc ?_ _) | (with_reducible refine Kd.C_drewN ?_ _) | (with_reducible refine Kd.C_drew ?_))); (case side2 => exact HC0_0.out); (case side3 => repeat (first | exact (Kd.C_below HR0_1.out HB.out) | (with_reducible refine Kd.C_alloc ?_ _) | (with_reducible refine Kd.C_drewN ?_ _) | (with_reducible refine Kd.C_drew ?_))); (case side4 => exact HC0_1.out); rintro e w20 ⟨rfl, hb⟩; have n0_ := Am (blk_below (g := gb202) (o := .cells #[.slice A0_0 l0_0.length c0_0, .slice A0_1 l0_1.length c0_1] 25 (0, 0)) (by (with_reducible repeat (first | refine bn ?_ _ | refine bd ?_ | refine ba ?_ _)); exact BK202.out) hb); have n1_ := Am (blk_below (g := gb203) (o := .cells #[.slice A1_0 l1_0.length c1_0, .slice A1_1 l1_1.length c1_1] 25 (0, 0)) (by (with_reducible repeat (first | refine bn ?_ _ | refine bd ?_ | refine ba ?_ _)); exact BK203.out) hb); have n2_ := Am (below_step (by repeat (first | (with_reducible first | exact HB.out | apply bl | apply pN | apply b1 | refine bs ?_ GE202.out | refine bs ?_ GE203.out) | exact HB.out | exact HBo.out)) hb); clear BK202; clear BK203; clear HB; have BK202 := n0_; have BK203 := n1_; have HB := n2_; clear n0_ n1_ n2_; (try clear hb); (try clear hb2); (try clear hk); (try clear hi)))
    go_meet
    case rel => exact ⟨_, (true), (by first | rfl | (simp; done) | (simp [*]; done) | (simp; generalize ByteArray.toList _ = l_; cases l_ <;> rfl)), H', ⟨by first | omega | exact Nat.le_refl _⟩, ⟨by (with_reducible repeat (first | refine bn ?_ _ | refine bd ?_ | refine ba ?_ _)); exact BK202.out⟩, ⟨by (with_reducible repeat (first | refine bn ?_ _ | refine bd ?_ | refine ba ?_ _)); exact BK203.out⟩, ⟨by repeat (first | (with_reducible first | exact HB.out | apply bl | apply pN | apply b1 | refine bs ?_ GE202.out | refine bs ?_ GE203.out) | exact HB.out | exact HBo.out)⟩⟩
  ·
   replace c7 := Bool.eq_false_iff.mpr c7
   subst c7
   have H1 : (shuttlecocklaw07_TableApart.j0 k true l0_0 l0_1 l1_0 l1_1) = some r := by rw [if_neg (show ¬ (false = true) by decide)] at H; exact H
   clear H
   have H := H1
   clear H1
   have H' := Am H
   clear H
   go_wp2_with (first | ((with_reducible refine gate_callee (f := 8) rfl ?_); refine goesL_ (some 7) rfl rfl Try.func8 (by kernel_rfl) rfl #[] rfl (by (try simp only [List.map_toArray, List.map_cons, List.map_nil]); first | done | rfl | (simp only [List.length_drop, List.length_take]; rfl)) ?_; (with_reducible refine (shuttlecocklaw07_fixed.calls k  false _ A6.out).mono ?_); rintro e w21 ⟨rfl, hb⟩; refine ⟨_, rfl, ?_⟩; have n0_ := Am (blk_below (g := gb202) (o := .cells #[.slice A0_0 l0_0.length c0_0, .slice A0_1 l0_1.length c0_1] 25 (0, 0)) (by (with_reducible repeat (first | refine bn ?_ _ | refine bd ?_ | refine ba ?_ _)); exact BK202.out) hb); have n1_ := Am (blk_below (g := gb203) (o := .cells #[.slice A1_0 l1_0.length c1_0, .slice A1_1 l1_1.length c1_1] 25 (0, 0)) (by (with_reducible repeat (first | refine bn ?_ _ | refine bd ?_ | refine ba ?_ _)); exact BK203.out) hb); have n2_ := Am (below_step (by repeat (first | (with_reducible first | exact HB.out | apply bl | apply pN | apply b1 | refine bs ?_ GE202.out | refine bs ?_ GE203.out) | exact HB.out | exact HBo.out)) hb); clear BK202; clear BK203; clear HB; have BK202 := n0_; have BK203 := n1_; have HB := n2_; clear n0_ n1_ n2_; (try clear hb); (try clear hb2); (try clear hk); (try clear hi)))
   go_meet
   case rel => exact ⟨_, (true), (by first | rfl | (simp; done) | (simp [*]; done) | (simp; generalize ByteArray.toList _ = l_; cases l_ <;> rfl)), H', ⟨by first | omega | exact Nat.le_refl _⟩, ⟨by (with_reducible repeat (first | refine bn ?_ _ | refine bd ?_ | refine ba ?_ _)); exact BK202.out⟩, ⟨by (with_reducible repeat (first | refine bn ?_ _ | refine bd ?_ | refine ba ?_ _)); exact BK203.out⟩, ⟨by repeat (first | (with_reducible first | exact HB.out | apply bl | apply pN | apply b1 | refine bs ?_ GE202.out | refine bs ?_ GE203.out) | exact HB.out | exact HBo.out)⟩⟩
 case rest =>
  clear HC3
  try clear c1
  try clear p2
  try clear c5
  try clear c7
  try clear c8
  try clear c9
  try clear c12
  try clear c18
  try clear hcz13_0
  try clear hcz13_1
  try clear hcz15_0
  try clear hcz15_1
  try clear hcz19_0
  try clear hcz19_1
  try clear hfz13_0
  try clear hfz13_1
  try clear hfz15_0
  try clear hfz15_1
  try clear hfz19_0
  try clear hfz19_1
  obtain ⟨kq, x18_2, rfl, HA, HJ2, BK202, BK203, HB⟩ := hcut
  cases kq with
  | zero => exact absurd HA.out (by simp [shuttlecocklaw07_TableApart.j0])
  | succ kj2 =>
   have H := HA.out
   clear HA
   simp only [shuttlecocklaw07_TableApart.j0] at H
   by_cases c22 : x18_2 = true
   ·
    subst c22
    have H1 : ((shuttlecocklaw07_fixed.f kj2).bind fun t207 => (some t207)) = some r := by rw [if_pos rfl] at H; exact H
    clear H
    have H := H1
    clear H1
    replace H := ob H
    obtain ⟨t207, A230, H⟩ := H
    replace H : (some t207) = some r := H
    have A23 := Am A230
    clear A230
    obtain rfl := Option.some.inj H
    go_wp2_with (first | ((with_reducible refine gate_callee (f := 8) rfl ?_); refine goesL_ (some 19) rfl rfl Try.func8 (by kernel_rfl) rfl #[] rfl (by (try simp only [List.map_toArray, List.map_cons, List.map_nil]); first | done | rfl | (simp only [List.length_drop, List.length_take]; rfl)) ?_; (with_reducible refine (shuttlecocklaw07_fixed.calls kj2  t207 _ A23.out).mono ?_); rintro e w24 ⟨rfl, hb⟩; refine ⟨_, rfl, ?_⟩; have n0_ := Am (blk_below (g := gb202) (o := .cells #[.slice A0_0 l0_0.length c0_0, .slice A0_1 l0_1.length c0_1] 25 (0, 0)) (by (with_reducible repeat (first | refine bn ?_ _ | refine bd ?_ | refine ba ?_ _)); exact BK202.out) hb); have n1_ := Am (blk_below (g := gb203) (o := .cells #[.slice A1_0 l1_0.length c1_0, .slice A1_1 l1_1.length c1_1] 25 (0, 0)) (by (with_reducible repeat (first | refine bn ?_ _ | refine bd ?_ | refine ba ?_ _)); exact BK203.out) hb); have n2_ := Am (below_step (by repeat (first | (with_reducible first | exact HB.out | apply bl | apply pN | apply b1 | refine bs ?_ GE202.out | refine bs ?_ GE203.out) | exact HB.out | exact HBo.out)) hb); clear BK202; clear BK203; clear HB; have BK202 := n0_; have BK203 := n1_; have HB := n2_; clear n0_ n1_ n2_; (try clear hb); (try clear hb2); (try clear hk); (try clear hi)))
    go_ret
    exact ⟨by first | rfl | (simp [errW_none, errW_some] <;> rfl) | (simp [*, errW_none, errW_some] <;> rfl) | (simp [Aid.ne_nil, Aid.eq_nil, errW_none, errW_some]; done), by repeat (first | (with_reducible first | exact HB.out | apply bl | apply pN | apply b1 | refine bs ?_ GE202.out | refine bs ?_ GE203.out) | exact HB.out | exact HBo.out)⟩
   ·
    replace c22 := Bool.eq_false_iff.mpr c22
    subst c22
    have H1 : ((table_Encode.f kj2 l0_0 l0_1).bind fun t208 => ((table_Encode.f kj2 l1_0 l1_1).bind fun t209 => ((shuttlecockref06_May.f kj2 l0_0 l0_1).bind fun t210 => (if t208.toList = ([] : List UInt8) then (if t210 = true then (none) else ((shuttlecockref06_May.f kj2 l1_0 l1_1).bind fun t211 => (if t209.toList = ([] : List UInt8) then (if t211 = true then (none) else (some true)) else (if t211 = true then (some true) else (none))))) else (if t210 = true then ((shuttlecockref06_May.f kj2 l1_0 l1_1).bind fun t212 => (if t209.toList = ([] : List UInt8) then (if t212 = true then (none) else (some true)) else (if t212 = true then ((shuttlecockref06_Same.f kj2 l0_0 l0_1 l1_0 l1_1).bind fun t213 => (if t208.toList = t209.toList then (if t213 = true then (some true) else (none)) else (if t213 = true then (none) else (some true)))) else (none)))) else (none)))))) = some r := by rw [if_neg (show ¬ (false = true) by decide)] at H; exact H
    clear H
    have H := H1
    clear H1
    replace H := ob H
    obtain ⟨t208, A250, H⟩ := H
    replace H : ((table_Encode.f kj2 l1_0 l1_1).bind fun t209 => ((shuttlecockref06_May.f kj2 l0_0 l0_1).bind fun t210 => (if t208.toList = ([] : List UInt8) then (if t210 = true then (none) else ((shuttlecockref06_May.f kj2 l1_0 l1_1).bind fun t211 => (if t209.toList = ([] : List UInt8) then (if t211 = true then (none) else (some true)) else (if t211 = true then (some true) else (none))))) else (if t210 = true then ((shuttlecockref06_May.f kj2 l1_0 l1_1).bind fun t212 => (if t209.toList = ([] : List UInt8) then (if t212 = true then (none) else (some true)) else (if t212 = true then ((shuttlecockref06_Same.f kj2 l0_0 l0_1 l1_0 l1_1).bind fun t213 => (if t208.toList = t209.toList then (if t213 = true then (some true) else (none)) else (if t213 = true then (none) else (some true)))) else (none)))) else (none))))) = some r := H
    have A25 := Am A250
    clear A250
    replace H := ob H
    obtain ⟨t209, A260, H⟩ := H
    replace H : ((shuttlecockref06_May.f kj2 l0_0 l0_1).bind fun t210 => (if t208.toList = ([] : List UInt8) then (if t210 = true then (none) else ((shuttlecockref06_May.f kj2 l1_0 l1_1).bind fun t211 => (if t209.toList = ([] : List UInt8) then (if t211 = true then (none) else (some true)) else (if t211 = true then (some true) else (none))))) else (if t210 = true then ((shuttlecockref06_May.f kj2 l1_0 l1_1).bind fun t212 => (if t209.toList = ([] : List UInt8) then (if t212 = true then (none) else (some true)) else (if t212 = true then ((shuttlecockref06_Same.f kj2 l0_0 l0_1 l1_0 l1_1).bind fun t213 => (if t208.toList = t209.toList then (if t213 = true then (some true) else (none)) else (if t213 = true then (none) else (some true)))) else (none)))) else (none)))) = some r := H
    have A26 := Am A260
    clear A260
    replace H := ob H
    obtain ⟨t210, A270, H⟩ := H
    replace H : (if t208.toList = ([] : List UInt8) then (if t210 = true then (none) else ((shuttlecockref06_May.f kj2 l1_0 l1_1).bind fun t211 => (if t209.toList = ([] : List UInt8) then (if t211 = true then (none) else (some true)) else (if t211 = true then (some true) else (none))))) else (if t210 = true then ((shuttlecockref06_May.f kj2 l1_0 l1_1).bind fun t212 => (if t209.toList = ([] : List UInt8) then (if t212 = true then (none) else (some true)) else (if t212 = true then ((shuttlecockref06_Same.f kj2 l0_0 l0_1 l1_0 l1_1).bind fun t213 => (if t208.toList = t209.toList then (if t213 = true then (some true) else (none)) else (if t213 = true then (none) else (some true)))) else (none)))) else (none))) = some r := H
    have A27 := Am A270
    clear A270
    by_cases c28 : t208.toList = ([] : List UInt8)
    ·
     rw [if_pos c28] at H
     have c28b0 : (t208.toList == ([] : List UInt8)) = true := beq_iff_eq.mpr c28
     try have c28b9 : (t208.toList).isEmpty = true := List.isEmpty_iff.2 c28
     have c28b1 : (t208.toList != ([] : List UInt8)) = false := bne_eq_false_iff_eq.mpr c28
     clear c28
     by_cases c29 : t210 = true
     ·
      subst c29
      have H1 : (none) = some r := by rw [if_pos rfl] at H; exact H
      clear H
      have H := H1
      clear H1
      exact absurd H (by simp)
     ·
      replace c29 := Bool.eq_false_iff.mpr c29
      subst c29
      have H1 : ((shuttlecockref06_May.f kj2 l1_0 l1_1).bind fun t211 => (if t209.toList = ([] : List UInt8) then (if t211 = true then (none) else (some true)) else (if t211 = true then (some true) else (none)))) = some r := by rw [if_neg (show ¬ (false = true) by decide)] at H; exact H
      clear H
      have H := H1
      clear H1
      replace H := ob H
      obtain ⟨t211, A300, H⟩ := H
      replace H : (if t209.toList = ([] : List UInt8) then (if t211 = true then (none) else (some true)) else (if t211 = true then (some true) else (none))) = some r := H
      have A30 := Am A300
      clear A300
      by_cases c31 : t209.toList = ([] : List UInt8)
      ·
       rw [if_pos c31] at H
       have c31b0 : (t209.toList == ([] : List UInt8)) = true := beq_iff_eq.mpr c31
       try have c31b9 : (t209.toList).isEmpty = true := List.isEmpty_iff.2 c31
       have c31b1 : (t209.toList != ([] : List UInt8)) = false := bne_eq_false_iff_eq.mpr c31
       clear c31
       by_cases c32 : t211 = true
       ·
        subst c32
        have H1 : (none) = some r := by rw [if_pos rfl] at H; exact H
        clear H
        have H := H1
        clear H1
        exact absurd H (by simp)
       ·
        replace c32 := Bool.eq_false_iff.mpr c32
        subst c32
        have H1 : (some true) = some r := by rw [if_neg (show ¬ (false = true) by decide)] at H; exact H
        clear H
        have H := H1
        clear H1
        obtain rfl := Option.some.inj H
        try go_wp2
        have n0_ := Am (bd BK202.out)
        have n1_ := Am (bd BK203.out)
        have n2_ := Am (b1 HB.out)
        clear BK202
        clear BK203
        clear HB
        have BK202 := n0_
        have BK203 := n1_
        have HB := n2_
        clear n0_ n1_ n2_
        refine start_ (n := 6) (S := fun w' => w'.cell? ⟨gb202, 0, none⟩ = some (.slice A0_0 l0_0.length c0_0) ∧ w'.cell? ⟨gb202, 1, none⟩ = some (.slice A0_1 l0_1.length c0_1) ∧ w'.cell? ⟨gb203, 0, none⟩ = some (.slice A1_0 l1_0.length c1_0) ∧ w'.cell? ⟨gb203, 1, none⟩ = some (.slice A1_1 l1_1.length c1_1)) (ds := []) q12_0 (by kernel_rfl) rfl rfl ⟨(bc BK202.out 0).trans rfl, (bc BK202.out 1).trans rfl, (bc BK203.out 0).trans rfl, (bc BK203.out 1).trans rfl⟩ (fun hHeld => ?_)
        generalize wc.drew = w33 at BK202 BK203 HB hHeld ⊢
        refine take_ (i := 0) (N := some 20) (v := ?_) (a' := ?_) q12_1 rfl rfl (by kernel_rfl) (fun _ _ _ h => h) (Or.inl ⟨by rfl, ?_⟩) hHeld ?_ ?_
        rotate_left
        ·
         rintro w' ⟨s0, s1, s2, s3⟩
         go_simp
         with_reducible rfl
        rotate_left
        ·
         simp only [Act.put, sI, sZ, sS, i64_w, i32_w]
         rfl
        refine take_ (i := 2) (N := some 22) (v := ?_) (a' := ?_) q12_2 rfl rfl (by kernel_rfl) (fun _ _ _ h => h) (Or.inl ⟨by rfl, ?_⟩) hHeld ?_ ?_
        rotate_left
        ·
         rintro w' ⟨s0, s1, s2, s3⟩
         go_simp
         with_reducible rfl
        rotate_left
        ·
         simp only [Act.put, sI, sZ, sS, i64_w, i32_w]
         rfl
        refine one_ (i := 1) (N := some 21) q12_3 rfl rfl (by kernel_rfl) (by decide) (fun K hK => ?_)
        refine goes_ Try.func11 (by kernel_rfl) rfl #[.agg #[.slice A0_0 l0_0.length c0_0, .slice A0_1 l0_1.length c0_1]] (by rfl) rfl rfl (by (try simp only [List.map_toArray, List.map_cons, List.map_nil]); first | done | rfl | (simp only [List.length_drop, List.length_take]; rfl)) ?_
        with_reducible refine (table_Encode.calls kj2 _ _ l0_0 _ _ l0_1 t208 _ ?side1 ?side2 ?side3 ?side4 A25.out).mono ?_
        (case side1 => repeat (first | exact (Kd.C_below HR0_0.out HB.out) | (with_reducible refine Kd.C_alloc ?_ _) | (with_reducible refine Kd.C_drewN ?_ _) | (with_reducible refine Kd.C_drew ?_)))
        (case side2 => exact HC0_0.out)
        (case side3 => repeat (first | exact (Kd.C_below HR0_1.out HB.out) | (with_reducible refine Kd.C_alloc ?_ _) | (with_reducible refine Kd.C_drewN ?_ _) | (with_reducible refine Kd.C_drew ?_)))
        (case side4 => exact HC0_1.out)
        rintro e w34 ⟨rfl, hb⟩
        refine ⟨_, rfl, ?_⟩
        have n0_ := Am (blk_below (g := gb202) (o := .cells #[.slice A0_0 l0_0.length c0_0, .slice A0_1 l0_1.length c0_1] 25 (0, 0)) (by (with_reducible repeat (first | refine bn ?_ _ | refine bd ?_ | refine ba ?_ _)); exact BK202.out) hb)
        have n1_ := Am (blk_below (g := gb203) (o := .cells #[.slice A1_0 l1_0.length c1_0, .slice A1_1 l1_1.length c1_1] 25 (0, 0)) (by (with_reducible repeat (first | refine bn ?_ _ | refine bd ?_ | refine ba ?_ _)); exact BK203.out) hb)
        have n2_ := Am (below_step (by repeat (first | (with_reducible first | exact HB.out | apply bl | apply pN | apply b1 | refine bs ?_ GE202.out | refine bs ?_ GE203.out) | exact HB.out | exact HBo.out)) hb)
        clear BK202
        clear BK203
        clear HB
        have BK202 := n0_
        have BK203 := n1_
        have HB := n2_
        clear n0_ n1_ n2_
        (try clear hb)
        (try clear hb2)
        (try clear hk)
        (try clear hi)
        refine hK.out _ _ ⟨(bc BK202.out 0).trans rfl, (bc BK202.out 1).trans rfl, (bc BK203.out 0).trans rfl, (bc BK203.out 1).trans rfl⟩ (fun hHeld => ?_)
        clear hK K
        refine norm_ (a' := ?_) ?_ ?_
        rotate_left
        ·
         show Act.put _ (some 21) _ = _
         simp only [Act.put, sI, sZ, sS, i64_w, i32_w]
         rfl
        refine one_ (i := 3) (N := some 23) q12_4 rfl rfl (by kernel_rfl) (by decide) (fun K hK => ?_)
        refine goes_ Try.func11 (by kernel_rfl) rfl #[.agg #[.slice A1_0 l1_0.length c1_0, .slice A1_1 l1_1.length c1_1]] (by rfl) rfl rfl (by (try simp only [List.map_toArray, List.map_cons, List.map_nil]); first | done | rfl | (simp only [List.length_drop, List.length_take]; rfl)) ?_
        with_reducible refine (table_Encode.calls kj2 _ _ l1_0 _ _ l1_1 t209 _ ?side1 ?side2 ?side3 ?side4 A26.out).mono ?_
        (case side1 => repeat (first | exact (Kd.C_below HR1_0.out HB.out) | (with_reducible refine Kd.C_alloc ?_ _) | (with_reducible refine Kd.C_drewN ?_ _) | (with_reducible refine Kd.C_drew ?_)))
        (case side2 => exact HC1_0.out)
        (case side3 => repeat (first | exact (Kd.C_below HR1_1.out HB.out) | (with_reducible refine Kd.C_alloc ?_ _) | (with_reducible refine Kd.C_drewN ?_ _) | (with_reducible refine Kd.C_drew ?_)))
        (case side4 => exact HC1_1.out)
        rintro e w35 ⟨rfl, hb⟩
        refine ⟨_, rfl, ?_⟩
        have n0_ := Am (blk_below (g := gb202) (o := .cells #[.slice A0_0 l0_0.length c0_0, .slice A0_1 l0_1.length c0_1] 25 (0, 0)) (by (with_reducible repeat (first | refine bn ?_ _ | refine bd ?_ | refine ba ?_ _)); exact BK202.out) hb)
        have n1_ := Am (blk_below (g := gb203) (o := .cells #[.slice A1_0 l1_0.length c1_0, .slice A1_1 l1_1.length c1_1] 25 (0, 0)) (by (with_reducible repeat (first | refine bn ?_ _ | refine bd ?_ | refine ba ?_ _)); exact BK203.out) hb)
        have n2_ := Am (below_step (by repeat (first | (with_reducible first | exact HB.out | apply bl | apply pN | apply b1 | refine bs ?_ GE202.out | refine bs ?_ GE203.out) | exact HB.out | exact HBo.out)) hb)
        clear BK202
        clear BK203
        clear HB
        have BK202 := n0_
        have BK203 := n1_
        have HB := n2_
        clear n0_ n1_ n2_
        (try clear hb)
        (try clear hb2)
        (try clear hk)
        (try clear hi)
        refine hK.out _ _ ⟨(bc BK202.out 0).trans rfl, (bc BK202.out 1).trans rfl, (bc BK203.out 0).trans rfl, (bc BK203.out 1).trans rfl⟩ (fun hHeld => ?_)
        clear hK K
        refine norm_ (a' := ?_) ?_ ?_
        rotate_left
        ·
         show Act.put _ (some 23) _ = _
         simp only [Act.put, sI, sZ, sS, i64_w, i32_w]
         rfl
        refine pure_ (i := 4) (N := some 5) (v := ?_) (a' := ?_) q12_5 rfl rfl (by kernel_rfl) (fun _ _ _ h => h) (Or.inl ⟨by rfl, ?_⟩) ?_ ?_
        rotate_left
        ·
         intro w'
         go_simp
         with_reducible rfl
        rotate_left
        ·
         simp only [Act.put, sI, sZ, sS, i64_w, i32_w]
         rfl
        refine pure_ (i := 5) (N := some 6) (v := ?_) (a' := ?_) q12_6 rfl rfl (by kernel_rfl) (fun _ _ _ h => h) (Or.inl ⟨by rfl, ?_⟩) ?_ ?_
        rotate_left
        ·
         intro w'
         go_simp
         with_reducible rfl
        rotate_left
        ·
         simp only [Act.put, sI, sZ, sS, i64_w, i32_w]
         rfl
        refine done_ (by kernel_rfl) ?_
        have hnb36 := NB202_203.out
        have hnc36 := NB203_202.out
        have hcz37_0 : w35.cell? ⟨gb202, 0, none⟩ = some (.slice A0_0 l0_0.length c0_0) := (bc BK202.out 0).trans rfl
        have hcz37_1 : w35.cell? ⟨gb202, 1, none⟩ = some (.slice A0_1 l0_1.length c0_1) := (bc BK202.out 1).trans rfl
        have hfz37_0 := bf BK202.out 0
        have hfz37_1 := bf BK202.out 1
        try go_wp2_with (first | ((with_reducible refine gate_callee (f := 16) rfl ?_); refine goesL_ (some 27) rfl rfl Try.func16 (by kernel_rfl) rfl #[.agg #[.slice A0_0 l0_0.length c0_0, .slice A0_1 l0_1.length c0_1]] rfl (by (try simp only [List.map_toArray, List.map_cons, List.map_nil]); first | done | rfl | (simp only [List.length_drop, List.length_take]; rfl)) ?_; (with_reducible refine (shuttlecockref06_May.calls kj2 _ _ l0_0 _ _ l0_1 false _ ?side1 ?side2 ?side3 ?side4 A27.out).mono ?_); (case side1 => repeat (first | exact (Kd.C_below HR0_0.out HB.out) | (with_reducible refine Kd.C_alloc ?_ _) | (with_reducible refine Kd.C_drewN ?_ _) | (with_reducible refine Kd.C_drew ?_))); (case side2 => exact HC0_0.out); (case side3 => repeat (first | exact (Kd.C_below HR0_1.out HB.out) | (with_reducible refine Kd.C_alloc ?_ _) | (with_reducible refine Kd.C_drewN ?_ _) | (with_reducible refine Kd.C_drew ?_))); (case side4 => exact HC0_1.out); rintro e w38 ⟨rfl, hb⟩; refine ⟨_, rfl, ?_⟩; have n0_ := Am (blk_below (g := gb202) (o := .cells #[.slice A0_0 l0_0.length c0_0, .slice A0_1 l0_1.length c0_1] 25 (0, 0)) (by (with_reducible repeat (first | refine bn ?_ _ | refine bd ?_ | refine ba ?_ _)); exact BK202.out) hb); have n1_ := Am (blk_below (g := gb203) (o := .cells #[.slice A1_0 l1_0.length c1_0, .slice A1_1 l1_1.length c1_1] 25 (0, 0)) (by (with_reducible repeat (first | refine bn ?_ _ | refine bd ?_ | refine ba ?_ _)); exact BK203.out) hb); have n2_ := Am (below_step (by repeat (first | (with_reducible first | exact HB.out | apply bl | apply pN | apply b1 | refine bs ?_ GE202.out | refine bs ?_ GE203.out) | exact HB.out | exact HBo.out)) hb); clear BK202; clear BK203; clear HB; have BK202 := n0_; have BK203 := n1_; have HB := n2_; clear n0_ n1_ n2_; (try clear hb); (try clear hb2); (try clear hk); (try clear hi); have hcz39_0 : w38.cell? ⟨gb203, 0, none⟩ = some (.slice A1_0 l1_0.length c1_0) := (bc BK203.out 0).trans rfl; have hcz39_1 : w38.cell? ⟨gb203, 1, none⟩ = some (.slice A1_1 l1_1.length c1_1) := (bc BK203.out 1).trans rfl; have hfz39_0 := bf BK203.out 0; have hfz39_1 := bf BK203.out 1) | (go_at_call 16; (with_reducible refine (shuttlecockref06_May.calls kj2 _ _ l1_0 _ _ l1_1 false _ ?side1 ?side2 ?side3 ?side4 A30.out).mono ?_); (case side1 => repeat (first | exact (Kd.C_below HR1_0.out HB.out) | (with_reducible refine Kd.C_alloc ?_ _) | (with_reducible refine Kd.C_drewN ?_ _) | (with_reducible refine Kd.C_drew ?_))); (case side2 => exact HC1_0.out); (case side3 => repeat (first | exact (Kd.C_below HR1_1.out HB.out) | (with_reducible refine Kd.C_alloc ?_ _) | (with_reducible refine Kd.C_drewN ?_ _) | (with_reducible refine Kd.C_drew ?_))); (case side4 => exact HC1_1.out); rintro e w40 ⟨rfl, hb⟩; have n0_ := Am (blk_below (g := gb202) (o := .cells #[.slice A0_0 l0_0.length c0_0, .slice A0_1 l0_1.length c0_1] 25 (0, 0)) (by (with_reducible repeat (first | refine bn ?_ _ | refine bd ?_ | refine ba ?_ _)); exact BK202.out) hb); have n1_ := Am (blk_below (g := gb203) (o := .cells #[.slice A1_0 l1_0.length c1_0, .slice A1_1 l1_1.length c1_1] 25 (0, 0)) (by (with_reducible repeat (first | refine bn ?_ _ | refine bd ?_ | refine ba ?_ _)); exact BK203.out) hb); have n2_ := Am (below_step (by repeat (first | (with_reducible first | exact HB.out | apply bl | apply pN | apply b1 | refine bs ?_ GE202.out | refine bs ?_ GE203.out) | exact HB.out | exact HBo.out)) hb); clear BK202; clear BK203; clear HB; have BK202 := n0_; have BK203 := n1_; have HB := n2_; clear n0_ n1_ n2_; (try clear hb); (try clear hb2); (try clear hk); (try clear hi)))
        go_ret
        exact ⟨by first | rfl | (simp [errW_none, errW_some] <;> rfl) | (simp [*, errW_none, errW_some] <;> rfl) | (simp [Aid.ne_nil, Aid.eq_nil, errW_none, errW_some]; done), by repeat (first | (with_reducible first | exact HB.out | apply bl | apply pN | apply b1 | refine bs ?_ GE202.out | refine bs ?_ GE203.out) | exact HB.out | exact HBo.out)⟩
      ·
       rw [if_neg c31] at H
       have c31b0 : (t209.toList == ([] : List UInt8)) = false := beq_eq_false_iff_ne.mpr c31
       try have c31b9 : (t209.toList).isEmpty = false := (by rw [List.isEmpty_eq_false_iff]; exact c31)
       have c31b1 : (t209.toList != ([] : List UInt8)) = true := bne_iff_ne.mpr c31
       by_cases c41 : t211 = true
       ·
        subst c41
        have H1 : (some true) = some r := by rw [if_pos rfl] at H; exact H
        clear H
        have H := H1
        clear H1
        obtain rfl := Option.some.inj H
        try go_wp2
        have n0_ := Am (bd BK202.out)
        have n1_ := Am (bd BK203.out)
        have n2_ := Am (b1 HB.out)
        clear BK202
        clear BK203
        clear HB
        have BK202 := n0_
        have BK203 := n1_
        have HB := n2_
        clear n0_ n1_ n2_
        refine start_ (n := 6) (S := fun w' => w'.cell? ⟨gb202, 0, none⟩ = some (.slice A0_0 l0_0.length c0_0) ∧ w'.cell? ⟨gb202, 1, none⟩ = some (.slice A0_1 l0_1.length c0_1) ∧ w'.cell? ⟨gb203, 0, none⟩ = some (.slice A1_0 l1_0.length c1_0) ∧ w'.cell? ⟨gb203, 1, none⟩ = some (.slice A1_1 l1_1.length c1_1)) (ds := []) q12_0 (by kernel_rfl) rfl rfl ⟨(bc BK202.out 0).trans rfl, (bc BK202.out 1).trans rfl, (bc BK203.out 0).trans rfl, (bc BK203.out 1).trans rfl⟩ (fun hHeld => ?_)
        generalize wc.drew = w42 at BK202 BK203 HB hHeld ⊢
        refine take_ (i := 0) (N := some 20) (v := ?_) (a' := ?_) q12_1 rfl rfl (by kernel_rfl) (fun _ _ _ h => h) (Or.inl ⟨by rfl, ?_⟩) hHeld ?_ ?_
        rotate_left
        ·
         rintro w' ⟨s0, s1, s2, s3⟩
         go_simp
         with_reducible rfl
        rotate_left
        ·
         simp only [Act.put, sI, sZ, sS, i64_w, i32_w]
         rfl
        refine take_ (i := 2) (N := some 22) (v := ?_) (a' := ?_) q12_2 rfl rfl (by kernel_rfl) (fun _ _ _ h => h) (Or.inl ⟨by rfl, ?_⟩) hHeld ?_ ?_
        rotate_left
        ·
         rintro w' ⟨s0, s1, s2, s3⟩
         go_simp
         with_reducible rfl
        rotate_left
        ·
         simp only [Act.put, sI, sZ, sS, i64_w, i32_w]
         rfl
        refine one_ (i := 1) (N := some 21) q12_3 rfl rfl (by kernel_rfl) (by decide) (fun K hK => ?_)
        refine goes_ Try.func11 (by kernel_rfl) rfl #[.agg #[.slice A0_0 l0_0.length c0_0, .slice A0_1 l0_1.length c0_1]] (by rfl) rfl rfl (by (try simp only [List.map_toArray, List.map_cons, List.map_nil]); first | done | rfl | (simp only [List.length_drop, List.length_take]; rfl)) ?_
        with_reducible refine (table_Encode.calls kj2 _ _ l0_0 _ _ l0_1 t208 _ ?side1 ?side2 ?side3 ?side4 A25.out).mono ?_
        (case side1 => repeat (first | exact (Kd.C_below HR0_0.out HB.out) | (with_reducible refine Kd.C_alloc ?_ _) | (with_reducible refine Kd.C_drewN ?_ _) | (with_reducible refine Kd.C_drew ?_)))
        (case side2 => exact HC0_0.out)
        (case side3 => repeat (first | exact (Kd.C_below HR0_1.out HB.out) | (with_reducible refine Kd.C_alloc ?_ _) | (with_reducible refine Kd.C_drewN ?_ _) | (with_reducible refine Kd.C_drew ?_)))
        (case side4 => exact HC0_1.out)
        rintro e w43 ⟨rfl, hb⟩
        refine ⟨_, rfl, ?_⟩
        have n0_ := Am (blk_below (g := gb202) (o := .cells #[.slice A0_0 l0_0.length c0_0, .slice A0_1 l0_1.length c0_1] 25 (0, 0)) (by (with_reducible repeat (first | refine bn ?_ _ | refine bd ?_ | refine ba ?_ _)); exact BK202.out) hb)
        have n1_ := Am (blk_below (g := gb203) (o := .cells #[.slice A1_0 l1_0.length c1_0, .slice A1_1 l1_1.length c1_1] 25 (0, 0)) (by (with_reducible repeat (first | refine bn ?_ _ | refine bd ?_ | refine ba ?_ _)); exact BK203.out) hb)
        have n2_ := Am (below_step (by repeat (first | (with_reducible first | exact HB.out | apply bl | apply pN | apply b1 | refine bs ?_ GE202.out | refine bs ?_ GE203.out) | exact HB.out | exact HBo.out)) hb)
        clear BK202
        clear BK203
        clear HB
        have BK202 := n0_
        have BK203 := n1_
        have HB := n2_
        clear n0_ n1_ n2_
        (try clear hb)
        (try clear hb2)
        (try clear hk)
        (try clear hi)
        refine hK.out _ _ ⟨(bc BK202.out 0).trans rfl, (bc BK202.out 1).trans rfl, (bc BK203.out 0).trans rfl, (bc BK203.out 1).trans rfl⟩ (fun hHeld => ?_)
        clear hK K
        refine norm_ (a' := ?_) ?_ ?_
        rotate_left
        ·
         show Act.put _ (some 21) _ = _
         simp only [Act.put, sI, sZ, sS, i64_w, i32_w]
         rfl
        refine one_ (i := 3) (N := some 23) q12_4 rfl rfl (by kernel_rfl) (by decide) (fun K hK => ?_)
        refine goes_ Try.func11 (by kernel_rfl) rfl #[.agg #[.slice A1_0 l1_0.length c1_0, .slice A1_1 l1_1.length c1_1]] (by rfl) rfl rfl (by (try simp only [List.map_toArray, List.map_cons, List.map_nil]); first | done | rfl | (simp only [List.length_drop, List.length_take]; rfl)) ?_
        with_reducible refine (table_Encode.calls kj2 _ _ l1_0 _ _ l1_1 t209 _ ?side1 ?side2 ?side3 ?side4 A26.out).mono ?_
        (case side1 => repeat (first | exact (Kd.C_below HR1_0.out HB.out) | (with_reducible refine Kd.C_alloc ?_ _) | (with_reducible refine Kd.C_drewN ?_ _) | (with_reducible refine Kd.C_drew ?_)))
        (case side2 => exact HC1_0.out)
        (case side3 => repeat (first | exact (Kd.C_below HR1_1.out HB.out) | (with_reducible refine Kd.C_alloc ?_ _) | (with_reducible refine Kd.C_drewN ?_ _) | (with_reducible refine Kd.C_drew ?_)))
        (case side4 => exact HC1_1.out)
        rintro e w44 ⟨rfl, hb⟩
        refine ⟨_, rfl, ?_⟩
        have n0_ := Am (blk_below (g := gb202) (o := .cells #[.slice A0_0 l0_0.length c0_0, .slice A0_1 l0_1.length c0_1] 25 (0, 0)) (by (with_reducible repeat (first | refine bn ?_ _ | refine bd ?_ | refine ba ?_ _)); exact BK202.out) hb)
        have n1_ := Am (blk_below (g := gb203) (o := .cells #[.slice A1_0 l1_0.length c1_0, .slice A1_1 l1_1.length c1_1] 25 (0, 0)) (by (with_reducible repeat (first | refine bn ?_ _ | refine bd ?_ | refine ba ?_ _)); exact BK203.out) hb)
        have n2_ := Am (below_step (by repeat (first | (with_reducible first | exact HB.out | apply bl | apply pN | apply b1 | refine bs ?_ GE202.out | refine bs ?_ GE203.out) | exact HB.out | exact HBo.out)) hb)
        clear BK202
        clear BK203
        clear HB
        have BK202 := n0_
        have BK203 := n1_
        have HB := n2_
        clear n0_ n1_ n2_
        (try clear hb)
        (try clear hb2)
        (try clear hk)
        (try clear hi)
        refine hK.out _ _ ⟨(bc BK202.out 0).trans rfl, (bc BK202.out 1).trans rfl, (bc BK203.out 0).trans rfl, (bc BK203.out 1).trans rfl⟩ (fun hHeld => ?_)
        clear hK K
        refine norm_ (a' := ?_) ?_ ?_
        rotate_left
        ·
         show Act.put _ (some 23) _ = _
         simp only [Act.put, sI, sZ, sS, i64_w, i32_w]
         rfl
        refine pure_ (i := 4) (N := some 5) (v := ?_) (a' := ?_) q12_5 rfl rfl (by kernel_rfl) (fun _ _ _ h => h) (Or.inl ⟨by rfl, ?_⟩) ?_ ?_
        rotate_left
        ·
         intro w'
         go_simp
         with_reducible rfl
        rotate_left
        ·
         simp only [Act.put, sI, sZ, sS, i64_w, i32_w]
         rfl
        refine pure_ (i := 5) (N := some 6) (v := ?_) (a' := ?_) q12_6 rfl rfl (by kernel_rfl) (fun _ _ _ h => h) (Or.inl ⟨by rfl, ?_⟩) ?_ ?_
        rotate_left
        ·
         intro w'
         go_simp
         with_reducible rfl
        rotate_left
        ·
         simp only [Act.put, sI, sZ, sS, i64_w, i32_w]
         rfl
        refine done_ (by kernel_rfl) ?_
        have hnb45 := NB202_203.out
        have hnc45 := NB203_202.out
        have hcz46_0 : w44.cell? ⟨gb202, 0, none⟩ = some (.slice A0_0 l0_0.length c0_0) := (bc BK202.out 0).trans rfl
        have hcz46_1 : w44.cell? ⟨gb202, 1, none⟩ = some (.slice A0_1 l0_1.length c0_1) := (bc BK202.out 1).trans rfl
        have hfz46_0 := bf BK202.out 0
        have hfz46_1 := bf BK202.out 1
        try go_wp2_with (first | ((with_reducible refine gate_callee (f := 16) rfl ?_); refine goesL_ (some 27) rfl rfl Try.func16 (by kernel_rfl) rfl #[.agg #[.slice A0_0 l0_0.length c0_0, .slice A0_1 l0_1.length c0_1]] rfl (by (try simp only [List.map_toArray, List.map_cons, List.map_nil]); first | done | rfl | (simp only [List.length_drop, List.length_take]; rfl)) ?_; (with_reducible refine (shuttlecockref06_May.calls kj2 _ _ l0_0 _ _ l0_1 false _ ?side1 ?side2 ?side3 ?side4 A27.out).mono ?_); (case side1 => repeat (first | exact (Kd.C_below HR0_0.out HB.out) | (with_reducible refine Kd.C_alloc ?_ _) | (with_reducible refine Kd.C_drewN ?_ _) | (with_reducible refine Kd.C_drew ?_))); (case side2 => exact HC0_0.out); (case side3 => repeat (first | exact (Kd.C_below HR0_1.out HB.out) | (with_reducible refine Kd.C_alloc ?_ _) | (with_reducible refine Kd.C_drewN ?_ _) | (with_reducible refine Kd.C_drew ?_))); (case side4 => exact HC0_1.out); rintro e w47 ⟨rfl, hb⟩; refine ⟨_, rfl, ?_⟩; have n0_ := Am (blk_below (g := gb202) (o := .cells #[.slice A0_0 l0_0.length c0_0, .slice A0_1 l0_1.length c0_1] 25 (0, 0)) (by (with_reducible repeat (first | refine bn ?_ _ | refine bd ?_ | refine ba ?_ _)); exact BK202.out) hb); have n1_ := Am (blk_below (g := gb203) (o := .cells #[.slice A1_0 l1_0.length c1_0, .slice A1_1 l1_1.length c1_1] 25 (0, 0)) (by (with_reducible repeat (first | refine bn ?_ _ | refine bd ?_ | refine ba ?_ _)); exact BK203.out) hb); have n2_ := Am (below_step (by repeat (first | (with_reducible first | exact HB.out | apply bl | apply pN | apply b1 | refine bs ?_ GE202.out | refine bs ?_ GE203.out) | exact HB.out | exact HBo.out)) hb); clear BK202; clear BK203; clear HB; have BK202 := n0_; have BK203 := n1_; have HB := n2_; clear n0_ n1_ n2_; (try clear hb); (try clear hb2); (try clear hk); (try clear hi); have hcz48_0 : w47.cell? ⟨gb203, 0, none⟩ = some (.slice A1_0 l1_0.length c1_0) := (bc BK203.out 0).trans rfl; have hcz48_1 : w47.cell? ⟨gb203, 1, none⟩ = some (.slice A1_1 l1_1.length c1_1) := (bc BK203.out 1).trans rfl; have hfz48_0 := bf BK203.out 0; have hfz48_1 := bf BK203.out 1) | (go_at_call 16; (with_reducible refine (shuttlecockref06_May.calls kj2 _ _ l1_0 _ _ l1_1 true _ ?side1 ?side2 ?side3 ?side4 A30.out).mono ?_); (case side1 => repeat (first | exact (Kd.C_below HR1_0.out HB.out) | (with_reducible refine Kd.C_alloc ?_ _) | (with_reducible refine Kd.C_drewN ?_ _) | (with_reducible refine Kd.C_drew ?_))); (case side2 => exact HC1_0.out); (case side3 => repeat (first | exact (Kd.C_below HR1_1.out HB.out) | (with_reducible refine Kd.C_alloc ?_ _) | (with_reducible refine Kd.C_drewN ?_ _) | (with_reducible refine Kd.C_drew ?_))); (case side4 => exact HC1_1.out); rintro e w49 ⟨rfl, hb⟩; have n0_ := Am (blk_below (g := gb202) (o := .cells #[.slice A0_0 l0_0.length c0_0, .slice A0_1 l0_1.length c0_1] 25 (0, 0)) (by (with_reducible repeat (first | refine bn ?_ _ | refine bd ?_ | refine ba ?_ _)); exact BK202.out) hb); have n1_ := Am (blk_below (g := gb203) (o := .cells #[.slice A1_0 l1_0.length c1_0, .slice A1_1 l1_1.length c1_1] 25 (0, 0)) (by (with_reducible repeat (first | refine bn ?_ _ | refine bd ?_ | refine ba ?_ _)); exact BK203.out) hb); have n2_ := Am (below_step (by repeat (first | (with_reducible first | exact HB.out | apply bl | apply pN | apply b1 | refine bs ?_ GE202.out | refine bs ?_ GE203.out) | exact HB.out | exact HBo.out)) hb); clear BK202; clear BK203; clear HB; have BK202 := n0_; have BK203 := n1_; have HB := n2_; clear n0_ n1_ n2_; (try clear hb); (try clear hb2); (try clear hk); (try clear hi)))
        go_ret
        exact ⟨by first | rfl | (simp [errW_none, errW_some] <;> rfl) | (simp [*, errW_none, errW_some] <;> rfl) | (simp [Aid.ne_nil, Aid.eq_nil, errW_none, errW_some]; done), by repeat (first | (with_reducible first | exact HB.out | apply bl | apply pN | apply b1 | refine bs ?_ GE202.out | refine bs ?_ GE203.out) | exact HB.out | exact HBo.out)⟩
       ·
        replace c41 := Bool.eq_false_iff.mpr c41
        subst c41
        have H1 : (none) = some r := by rw [if_neg (show ¬ (false = true) by decide)] at H; exact H
        clear H
        have H := H1
        clear H1
        exact absurd H (by simp)
    ·
     rw [if_neg c28] at H
     have c28b0 : (t208.toList == ([] : List UInt8)) = false := beq_eq_false_iff_ne.mpr c28
     try have c28b9 : (t208.toList).isEmpty = false := (by rw [List.isEmpty_eq_false_iff]; exact c28)
     have c28b1 : (t208.toList != ([] : List UInt8)) = true := bne_iff_ne.mpr c28
     by_cases c50 : t210 = true
     ·
      subst c50
      have H1 : ((shuttlecockref06_May.f kj2 l1_0 l1_1).bind fun t212 => (if t209.toList = ([] : List UInt8) then (if t212 = true then (none) else (some true)) else (if t212 = true then ((shuttlecockref06_Same.f kj2 l0_0 l0_1 l1_0 l1_1).bind fun t213 => (if t208.toList = t209.toList then (if t213 = true then (some true) else (none)) else (if t213 = true then (none) else (some true)))) else (none)))) = some r := by rw [if_pos rfl] at H; exact H
      clear H
      have H := H1
      clear H1
      replace H := ob H
      obtain ⟨t212, A510, H⟩ := H
      replace H : (if t209.toList = ([] : List UInt8) then (if t212 = true then (none) else (some true)) else (if t212 = true then ((shuttlecockref06_Same.f kj2 l0_0 l0_1 l1_0 l1_1).bind fun t213 => (if t208.toList = t209.toList then (if t213 = true then (some true) else (none)) else (if t213 = true then (none) else (some true)))) else (none))) = some r := H
      have A51 := Am A510
      clear A510
      by_cases c52 : t209.toList = ([] : List UInt8)
      ·
       rw [if_pos c52] at H
       have c52b0 : (t209.toList == ([] : List UInt8)) = true := beq_iff_eq.mpr c52
       try have c52b9 : (t209.toList).isEmpty = true := List.isEmpty_iff.2 c52
       have c52b1 : (t209.toList != ([] : List UInt8)) = false := bne_eq_false_iff_eq.mpr c52
       clear c52
       by_cases c53 : t212 = true
       ·
        subst c53
        have H1 : (none) = some r := by rw [if_pos rfl] at H; exact H
        clear H
        have H := H1
        clear H1
        exact absurd H (by simp)
       ·
        replace c53 := Bool.eq_false_iff.mpr c53
        subst c53
        have H1 : (some true) = some r := by rw [if_neg (show ¬ (false = true) by decide)] at H; exact H
        clear H
        have H := H1
        clear H1
        obtain rfl := Option.some.inj H
        try go_wp2
        have n0_ := Am (bd BK202.out)
        have n1_ := Am (bd BK203.out)
        have n2_ := Am (b1 HB.out)
        clear BK202
        clear BK203
        clear HB
        have BK202 := n0_
        have BK203 := n1_
        have HB := n2_
        clear n0_ n1_ n2_
        refine start_ (n := 6) (S := fun w' => w'.cell? ⟨gb202, 0, none⟩ = some (.slice A0_0 l0_0.length c0_0) ∧ w'.cell? ⟨gb202, 1, none⟩ = some (.slice A0_1 l0_1.length c0_1) ∧ w'.cell? ⟨gb203, 0, none⟩ = some (.slice A1_0 l1_0.length c1_0) ∧ w'.cell? ⟨gb203, 1, none⟩ = some (.slice A1_1 l1_1.length c1_1)) (ds := []) q12_0 (by kernel_rfl) rfl rfl ⟨(bc BK202.out 0).trans rfl, (bc BK202.out 1).trans rfl, (bc BK203.out 0).trans rfl, (bc BK203.out 1).trans rfl⟩ (fun hHeld => ?_)
        generalize wc.drew = w54 at BK202 BK203 HB hHeld ⊢
        refine take_ (i := 0) (N := some 20) (v := ?_) (a' := ?_) q12_1 rfl rfl (by kernel_rfl) (fun _ _ _ h => h) (Or.inl ⟨by rfl, ?_⟩) hHeld ?_ ?_
        rotate_left
        ·
         rintro w' ⟨s0, s1, s2, s3⟩
         go_simp
         with_reducible rfl
        rotate_left
        ·
         simp only [Act.put, sI, sZ, sS, i64_w, i32_w]
         rfl
        refine take_ (i := 2) (N := some 22) (v := ?_) (a' := ?_) q12_2 rfl rfl (by kernel_rfl) (fun _ _ _ h => h) (Or.inl ⟨by rfl, ?_⟩) hHeld ?_ ?_
        rotate_left
        ·
         rintro w' ⟨s0, s1, s2, s3⟩
         go_simp
         with_reducible rfl
        rotate_left
        ·
         simp only [Act.put, sI, sZ, sS, i64_w, i32_w]
         rfl
        refine one_ (i := 1) (N := some 21) q12_3 rfl rfl (by kernel_rfl) (by decide) (fun K hK => ?_)
        refine goes_ Try.func11 (by kernel_rfl) rfl #[.agg #[.slice A0_0 l0_0.length c0_0, .slice A0_1 l0_1.length c0_1]] (by rfl) rfl rfl (by (try simp only [List.map_toArray, List.map_cons, List.map_nil]); first | done | rfl | (simp only [List.length_drop, List.length_take]; rfl)) ?_
        with_reducible refine (table_Encode.calls kj2 _ _ l0_0 _ _ l0_1 t208 _ ?side1 ?side2 ?side3 ?side4 A25.out).mono ?_
        (case side1 => repeat (first | exact (Kd.C_below HR0_0.out HB.out) | (with_reducible refine Kd.C_alloc ?_ _) | (with_reducible refine Kd.C_drewN ?_ _) | (with_reducible refine Kd.C_drew ?_)))
        (case side2 => exact HC0_0.out)
        (case side3 => repeat (first | exact (Kd.C_below HR0_1.out HB.out) | (with_reducible refine Kd.C_alloc ?_ _) | (with_reducible refine Kd.C_drewN ?_ _) | (with_reducible refine Kd.C_drew ?_)))
        (case side4 => exact HC0_1.out)
        rintro e w55 ⟨rfl, hb⟩
        refine ⟨_, rfl, ?_⟩
        have n0_ := Am (blk_below (g := gb202) (o := .cells #[.slice A0_0 l0_0.length c0_0, .slice A0_1 l0_1.length c0_1] 25 (0, 0)) (by (with_reducible repeat (first | refine bn ?_ _ | refine bd ?_ | refine ba ?_ _)); exact BK202.out) hb)
        have n1_ := Am (blk_below (g := gb203) (o := .cells #[.slice A1_0 l1_0.length c1_0, .slice A1_1 l1_1.length c1_1] 25 (0, 0)) (by (with_reducible repeat (first | refine bn ?_ _ | refine bd ?_ | refine ba ?_ _)); exact BK203.out) hb)
        have n2_ := Am (below_step (by repeat (first | (with_reducible first | exact HB.out | apply bl | apply pN | apply b1 | refine bs ?_ GE202.out | refine bs ?_ GE203.out) | exact HB.out | exact HBo.out)) hb)
        clear BK202
        clear BK203
        clear HB
        have BK202 := n0_
        have BK203 := n1_
        have HB := n2_
        clear n0_ n1_ n2_
        (try clear hb)
        (try clear hb2)
        (try clear hk)
        (try clear hi)
        refine hK.out _ _ ⟨(bc BK202.out 0).trans rfl, (bc BK202.out 1).trans rfl, (bc BK203.out 0).trans rfl, (bc BK203.out 1).trans rfl⟩ (fun hHeld => ?_)
        clear hK K
        refine norm_ (a' := ?_) ?_ ?_
        rotate_left
        ·
         show Act.put _ (some 21) _ = _
         simp only [Act.put, sI, sZ, sS, i64_w, i32_w]
         rfl
        refine one_ (i := 3) (N := some 23) q12_4 rfl rfl (by kernel_rfl) (by decide) (fun K hK => ?_)
        refine goes_ Try.func11 (by kernel_rfl) rfl #[.agg #[.slice A1_0 l1_0.length c1_0, .slice A1_1 l1_1.length c1_1]] (by rfl) rfl rfl (by (try simp only [List.map_toArray, List.map_cons, List.map_nil]); first | done | rfl | (simp only [List.length_drop, List.length_take]; rfl)) ?_
        with_reducible refine (table_Encode.calls kj2 _ _ l1_0 _ _ l1_1 t209 _ ?side1 ?side2 ?side3 ?side4 A26.out).mono ?_
        (case side1 => repeat (first | exact (Kd.C_below HR1_0.out HB.out) | (with_reducible refine Kd.C_alloc ?_ _) | (with_reducible refine Kd.C_drewN ?_ _) | (with_reducible refine Kd.C_drew ?_)))
        (case side2 => exact HC1_0.out)
        (case side3 => repeat (first | exact (Kd.C_below HR1_1.out HB.out) | (with_reducible refine Kd.C_alloc ?_ _) | (with_reducible refine Kd.C_drewN ?_ _) | (with_reducible refine Kd.C_drew ?_)))
        (case side4 => exact HC1_1.out)
        rintro e w56 ⟨rfl, hb⟩
        refine ⟨_, rfl, ?_⟩
        have n0_ := Am (blk_below (g := gb202) (o := .cells #[.slice A0_0 l0_0.length c0_0, .slice A0_1 l0_1.length c0_1] 25 (0, 0)) (by (with_reducible repeat (first | refine bn ?_ _ | refine bd ?_ | refine ba ?_ _)); exact BK202.out) hb)
        have n1_ := Am (blk_below (g := gb203) (o := .cells #[.slice A1_0 l1_0.length c1_0, .slice A1_1 l1_1.length c1_1] 25 (0, 0)) (by (with_reducible repeat (first | refine bn ?_ _ | refine bd ?_ | refine ba ?_ _)); exact BK203.out) hb)
        have n2_ := Am (below_step (by repeat (first | (with_reducible first | exact HB.out | apply bl | apply pN | apply b1 | refine bs ?_ GE202.out | refine bs ?_ GE203.out) | exact HB.out | exact HBo.out)) hb)
        clear BK202
        clear BK203
        clear HB
        have BK202 := n0_
        have BK203 := n1_
        have HB := n2_
        clear n0_ n1_ n2_
        (try clear hb)
        (try clear hb2)
        (try clear hk)
        (try clear hi)
        refine hK.out _ _ ⟨(bc BK202.out 0).trans rfl, (bc BK202.out 1).trans rfl, (bc BK203.out 0).trans rfl, (bc BK203.out 1).trans rfl⟩ (fun hHeld => ?_)
        clear hK K
        refine norm_ (a' := ?_) ?_ ?_
        rotate_left
        ·
         show Act.put _ (some 23) _ = _
         simp only [Act.put, sI, sZ, sS, i64_w, i32_w]
         rfl
        refine pure_ (i := 4) (N := some 5) (v := ?_) (a' := ?_) q12_5 rfl rfl (by kernel_rfl) (fun _ _ _ h => h) (Or.inl ⟨by rfl, ?_⟩) ?_ ?_
        rotate_left
        ·
         intro w'
         go_simp
         with_reducible rfl
        rotate_left
        ·
         simp only [Act.put, sI, sZ, sS, i64_w, i32_w]
         rfl
        refine pure_ (i := 5) (N := some 6) (v := ?_) (a' := ?_) q12_6 rfl rfl (by kernel_rfl) (fun _ _ _ h => h) (Or.inl ⟨by rfl, ?_⟩) ?_ ?_
        rotate_left
        ·
         intro w'
         go_simp
         with_reducible rfl
        rotate_left
        ·
         simp only [Act.put, sI, sZ, sS, i64_w, i32_w]
         rfl
        refine done_ (by kernel_rfl) ?_
        have hnb57 := NB202_203.out
        have hnc57 := NB203_202.out
        have hcz58_0 : w56.cell? ⟨gb202, 0, none⟩ = some (.slice A0_0 l0_0.length c0_0) := (bc BK202.out 0).trans rfl
        have hcz58_1 : w56.cell? ⟨gb202, 1, none⟩ = some (.slice A0_1 l0_1.length c0_1) := (bc BK202.out 1).trans rfl
        have hfz58_0 := bf BK202.out 0
        have hfz58_1 := bf BK202.out 1
        try go_wp2_with (first | ((with_reducible refine gate_callee (f := 16) rfl ?_); refine goesL_ (some 27) rfl rfl Try.func16 (by kernel_rfl) rfl #[.agg #[.slice A0_0 l0_0.length c0_0, .slice A0_1 l0_1.length c0_1]] rfl (by (try simp only [List.map_toArray, List.map_cons, List.map_nil]); first | done | rfl | (simp only [List.length_drop, List.length_take]; rfl)) ?_; (with_reducible refine (shuttlecockref06_May.calls kj2 _ _ l0_0 _ _ l0_1 true _ ?side1 ?side2 ?side3 ?side4 A27.out).mono ?_); (case side1 => repeat (first | exact (Kd.C_below HR0_0.out HB.out) | (with_reducible refine Kd.C_alloc ?_ _) | (with_reducible refine Kd.C_drewN ?_ _) | (with_reducible refine Kd.C_drew ?_))); (case side2 => exact HC0_0.out); (case side3 => repeat (first | exact (Kd.C_below HR0_1.out HB.out) | (with_reducible refine Kd.C_alloc ?_ _) | (with_reducible refine Kd.C_drewN ?_ _) | (with_reducible refine Kd.C_drew ?_))); (case side4 => exact HC0_1.out); rintro e w59 ⟨rfl, hb⟩; refine ⟨_, rfl, ?_⟩; have n0_ := Am (blk_below (g := gb202) (o := .cells #[.slice A0_0 l0_0.length c0_0, .slice A0_1 l0_1.length c0_1] 25 (0, 0)) (by (with_reducible repeat (first | refine bn ?_ _ | refine bd ?_ | refine ba ?_ _)); exact BK202.out) hb); have n1_ := Am (blk_below (g := gb203) (o := .cells #[.slice A1_0 l1_0.length c1_0, .slice A1_1 l1_1.length c1_1] 25 (0, 0)) (by (with_reducible repeat (first | refine bn ?_ _ | refine bd ?_ | refine ba ?_ _)); exact BK203.out) hb); have n2_ := Am (below_step (by repeat (first | (with_reducible first | exact HB.out | apply bl | apply pN | apply b1 | refine bs ?_ GE202.out | refine bs ?_ GE203.out) | exact HB.out | exact HBo.out)) hb); clear BK202; clear BK203; clear HB; have BK202 := n0_; have BK203 := n1_; have HB := n2_; clear n0_ n1_ n2_; (try clear hb); (try clear hb2); (try clear hk); (try clear hi); have hcz60_0 : w59.cell? ⟨gb203, 0, none⟩ = some (.slice A1_0 l1_0.length c1_0) := (bc BK203.out 0).trans rfl; have hcz60_1 : w59.cell? ⟨gb203, 1, none⟩ = some (.slice A1_1 l1_1.length c1_1) := (bc BK203.out 1).trans rfl; have hfz60_0 := bf BK203.out 0; have hfz60_1 := bf BK203.out 1) | (go_at_call 16; (with_reducible refine (shuttlecockref06_May.calls kj2 _ _ l1_0 _ _ l1_1 false _ ?side1 ?side2 ?side3 ?side4 A51.out).mono ?_); (case side1 => repeat (first | exact (Kd.C_below HR1_0.out HB.out) | (with_reducible refine Kd.C_alloc ?_ _) | (with_reducible refine Kd.C_drewN ?_ _) | (with_reducible refine Kd.C_drew ?_))); (case side2 => exact HC1_0.out); (case side3 => repeat (first | exact (Kd.C_below HR1_1.out HB.out) | (with_reducible refine Kd.C_alloc ?_ _) | (with_reducible refine Kd.C_drewN ?_ _) | (with_reducible refine Kd.C_drew ?_))); (case side4 => exact HC1_1.out); rintro e w61 ⟨rfl, hb⟩; have n0_ := Am (blk_below (g := gb202) (o := .cells #[.slice A0_0 l0_0.length c0_0, .slice A0_1 l0_1.length c0_1] 25 (0, 0)) (by (with_reducible repeat (first | refine bn ?_ _ | refine bd ?_ | refine ba ?_ _)); exact BK202.out) hb); have n1_ := Am (blk_below (g := gb203) (o := .cells #[.slice A1_0 l1_0.length c1_0, .slice A1_1 l1_1.length c1_1] 25 (0, 0)) (by (with_reducible repeat (first | refine bn ?_ _ | refine bd ?_ | refine ba ?_ _)); exact BK203.out) hb); have n2_ := Am (below_step (by repeat (first | (with_reducible first | exact HB.out | apply bl | apply pN | apply b1 | refine bs ?_ GE202.out | refine bs ?_ GE203.out) | exact HB.out | exact HBo.out)) hb); clear BK202; clear BK203; clear HB; have BK202 := n0_; have BK203 := n1_; have HB := n2_; clear n0_ n1_ n2_; (try clear hb); (try clear hb2); (try clear hk); (try clear hi)))
        go_ret
        exact ⟨by first | rfl | (simp [errW_none, errW_some] <;> rfl) | (simp [*, errW_none, errW_some] <;> rfl) | (simp [Aid.ne_nil, Aid.eq_nil, errW_none, errW_some]; done), by repeat (first | (with_reducible first | exact HB.out | apply bl | apply pN | apply b1 | refine bs ?_ GE202.out | refine bs ?_ GE203.out) | exact HB.out | exact HBo.out)⟩
      ·
       rw [if_neg c52] at H
       have c52b0 : (t209.toList == ([] : List UInt8)) = false := beq_eq_false_iff_ne.mpr c52
       try have c52b9 : (t209.toList).isEmpty = false := (by rw [List.isEmpty_eq_false_iff]; exact c52)
       have c52b1 : (t209.toList != ([] : List UInt8)) = true := bne_iff_ne.mpr c52
       by_cases c62 : t212 = true
       ·
        subst c62
        have H1 : ((shuttlecockref06_Same.f kj2 l0_0 l0_1 l1_0 l1_1).bind fun t213 => (if t208.toList = t209.toList then (if t213 = true then (some true) else (none)) else (if t213 = true then (none) else (some true)))) = some r := by rw [if_pos rfl] at H; exact H
        clear H
        have H := H1
        clear H1
        replace H := ob H
        obtain ⟨t213, A630, H⟩ := H
        replace H : (if t208.toList = t209.toList then (if t213 = true then (some true) else (none)) else (if t213 = true then (none) else (some true))) = some r := H
        have A63 := Am A630
        clear A630
        by_cases c64 : t208.toList = t209.toList
        ·
         rw [if_pos c64] at H
         have c64b0 : (t208.toList == t209.toList) = true := beq_iff_eq.mpr c64
         have c64b1 : (t208.toList != t209.toList) = false := bne_eq_false_iff_eq.mpr c64
         clear c64
         by_cases c65 : t213 = true
         ·
          subst c65
          have H1 : (some true) = some r := by rw [if_pos rfl] at H; exact H
          clear H
          have H := H1
          clear H1
          obtain rfl := Option.some.inj H
          try go_wp2
          have n0_ := Am (bd BK202.out)
          have n1_ := Am (bd BK203.out)
          have n2_ := Am (b1 HB.out)
          clear BK202
          clear BK203
          clear HB
          have BK202 := n0_
          have BK203 := n1_
          have HB := n2_
          clear n0_ n1_ n2_
          refine start_ (n := 6) (S := fun w' => w'.cell? ⟨gb202, 0, none⟩ = some (.slice A0_0 l0_0.length c0_0) ∧ w'.cell? ⟨gb202, 1, none⟩ = some (.slice A0_1 l0_1.length c0_1) ∧ w'.cell? ⟨gb203, 0, none⟩ = some (.slice A1_0 l1_0.length c1_0) ∧ w'.cell? ⟨gb203, 1, none⟩ = some (.slice A1_1 l1_1.length c1_1)) (ds := []) q12_0 (by kernel_rfl) rfl rfl ⟨(bc BK202.out 0).trans rfl, (bc BK202.out 1).trans rfl, (bc BK203.out 0).trans rfl, (bc BK203.out 1).trans rfl⟩ (fun hHeld => ?_)
          generalize wc.drew = w66 at BK202 BK203 HB hHeld ⊢
          refine take_ (i := 0) (N := some 20) (v := ?_) (a' := ?_) q12_1 rfl rfl (by kernel_rfl) (fun _ _ _ h => h) (Or.inl ⟨by rfl, ?_⟩) hHeld ?_ ?_
          rotate_left
          ·
           rintro w' ⟨s0, s1, s2, s3⟩
           go_simp
           with_reducible rfl
          rotate_left
          ·
           simp only [Act.put, sI, sZ, sS, i64_w, i32_w]
           rfl
          refine take_ (i := 2) (N := some 22) (v := ?_) (a' := ?_) q12_2 rfl rfl (by kernel_rfl) (fun _ _ _ h => h) (Or.inl ⟨by rfl, ?_⟩) hHeld ?_ ?_
          rotate_left
          ·
           rintro w' ⟨s0, s1, s2, s3⟩
           go_simp
           with_reducible rfl
          rotate_left
          ·
           simp only [Act.put, sI, sZ, sS, i64_w, i32_w]
           rfl
          refine one_ (i := 1) (N := some 21) q12_3 rfl rfl (by kernel_rfl) (by decide) (fun K hK => ?_)
          refine goes_ Try.func11 (by kernel_rfl) rfl #[.agg #[.slice A0_0 l0_0.length c0_0, .slice A0_1 l0_1.length c0_1]] (by rfl) rfl rfl (by (try simp only [List.map_toArray, List.map_cons, List.map_nil]); first | done | rfl | (simp only [List.length_drop, List.length_take]; rfl)) ?_
          with_reducible refine (table_Encode.calls kj2 _ _ l0_0 _ _ l0_1 t208 _ ?side1 ?side2 ?side3 ?side4 A25.out).mono ?_
          (case side1 => repeat (first | exact (Kd.C_below HR0_0.out HB.out) | (with_reducible refine Kd.C_alloc ?_ _) | (with_reducible refine Kd.C_drewN ?_ _) | (with_reducible refine Kd.C_drew ?_)))
          (case side2 => exact HC0_0.out)
          (case side3 => repeat (first | exact (Kd.C_below HR0_1.out HB.out) | (with_reducible refine Kd.C_alloc ?_ _) | (with_reducible refine Kd.C_drewN ?_ _) | (with_reducible refine Kd.C_drew ?_)))
          (case side4 => exact HC0_1.out)
          rintro e w67 ⟨rfl, hb⟩
          refine ⟨_, rfl, ?_⟩
          have n0_ := Am (blk_below (g := gb202) (o := .cells #[.slice A0_0 l0_0.length c0_0, .slice A0_1 l0_1.length c0_1] 25 (0, 0)) (by (with_reducible repeat (first | refine bn ?_ _ | refine bd ?_ | refine ba ?_ _)); exact BK202.out) hb)
          have n1_ := Am (blk_below (g := gb203) (o := .cells #[.slice A1_0 l1_0.length c1_0, .slice A1_1 l1_1.length c1_1] 25 (0, 0)) (by (with_reducible repeat (first | refine bn ?_ _ | refine bd ?_ | refine ba ?_ _)); exact BK203.out) hb)
          have n2_ := Am (below_step (by repeat (first | (with_reducible first | exact HB.out | apply bl | apply pN | apply b1 | refine bs ?_ GE202.out | refine bs ?_ GE203.out) | exact HB.out | exact HBo.out)) hb)
          clear BK202
          clear BK203
          clear HB
          have BK202 := n0_
          have BK203 := n1_
          have HB := n2_
          clear n0_ n1_ n2_
          (try clear hb)
          (try clear hb2)
          (try clear hk)
          (try clear hi)
          refine hK.out _ _ ⟨(bc BK202.out 0).trans rfl, (bc BK202.out 1).trans rfl, (bc BK203.out 0).trans rfl, (bc BK203.out 1).trans rfl⟩ (fun hHeld => ?_)
          clear hK K
          refine norm_ (a' := ?_) ?_ ?_
          rotate_left
          ·
           show Act.put _ (some 21) _ = _
           simp only [Act.put, sI, sZ, sS, i64_w, i32_w]
           rfl
          refine one_ (i := 3) (N := some 23) q12_4 rfl rfl (by kernel_rfl) (by decide) (fun K hK => ?_)
          refine goes_ Try.func11 (by kernel_rfl) rfl #[.agg #[.slice A1_0 l1_0.length c1_0, .slice A1_1 l1_1.length c1_1]] (by rfl) rfl rfl (by (try simp only [List.map_toArray, List.map_cons, List.map_nil]); first | done | rfl | (simp only [List.length_drop, List.length_take]; rfl)) ?_
          with_reducible refine (table_Encode.calls kj2 _ _ l1_0 _ _ l1_1 t209 _ ?side1 ?side2 ?side3 ?side4 A26.out).mono ?_
          (case side1 => repeat (first | exact (Kd.C_below HR1_0.out HB.out) | (with_reducible refine Kd.C_alloc ?_ _) | (with_reducible refine Kd.C_drewN ?_ _) | (with_reducible refine Kd.C_drew ?_)))
          (case side2 => exact HC1_0.out)
          (case side3 => repeat (first | exact (Kd.C_below HR1_1.out HB.out) | (with_reducible refine Kd.C_alloc ?_ _) | (with_reducible refine Kd.C_drewN ?_ _) | (with_reducible refine Kd.C_drew ?_)))
          (case side4 => exact HC1_1.out)
          rintro e w68 ⟨rfl, hb⟩
          refine ⟨_, rfl, ?_⟩
          have n0_ := Am (blk_below (g := gb202) (o := .cells #[.slice A0_0 l0_0.length c0_0, .slice A0_1 l0_1.length c0_1] 25 (0, 0)) (by (with_reducible repeat (first | refine bn ?_ _ | refine bd ?_ | refine ba ?_ _)); exact BK202.out) hb)
          have n1_ := Am (blk_below (g := gb203) (o := .cells #[.slice A1_0 l1_0.length c1_0, .slice A1_1 l1_1.length c1_1] 25 (0, 0)) (by (with_reducible repeat (first | refine bn ?_ _ | refine bd ?_ | refine ba ?_ _)); exact BK203.out) hb)
          have n2_ := Am (below_step (by repeat (first | (with_reducible first | exact HB.out | apply bl | apply pN | apply b1 | refine bs ?_ GE202.out | refine bs ?_ GE203.out) | exact HB.out | exact HBo.out)) hb)
          clear BK202
          clear BK203
          clear HB
          have BK202 := n0_
          have BK203 := n1_
          have HB := n2_
          clear n0_ n1_ n2_
          (try clear hb)
          (try clear hb2)
          (try clear hk)
          (try clear hi)
          refine hK.out _ _ ⟨(bc BK202.out 0).trans rfl, (bc BK202.out 1).trans rfl, (bc BK203.out 0).trans rfl, (bc BK203.out 1).trans rfl⟩ (fun hHeld => ?_)
          clear hK K
          refine norm_ (a' := ?_) ?_ ?_
          rotate_left
          ·
           show Act.put _ (some 23) _ = _
           simp only [Act.put, sI, sZ, sS, i64_w, i32_w]
           rfl
          refine pure_ (i := 4) (N := some 5) (v := ?_) (a' := ?_) q12_5 rfl rfl (by kernel_rfl) (fun _ _ _ h => h) (Or.inl ⟨by rfl, ?_⟩) ?_ ?_
          rotate_left
          ·
           intro w'
           go_simp
           with_reducible rfl
          rotate_left
          ·
           simp only [Act.put, sI, sZ, sS, i64_w, i32_w]
           rfl
          refine pure_ (i := 5) (N := some 6) (v := ?_) (a' := ?_) q12_6 rfl rfl (by kernel_rfl) (fun _ _ _ h => h) (Or.inl ⟨by rfl, ?_⟩) ?_ ?_
          rotate_left
          ·
           intro w'
           go_simp
           with_reducible rfl
          rotate_left
          ·
           simp only [Act.put, sI, sZ, sS, i64_w, i32_w]
           rfl
          refine done_ (by kernel_rfl) ?_
          have hnb69 := NB202_203.out
          have hnc69 := NB203_202.out
          have hcz70_0 : w68.cell? ⟨gb202, 0, none⟩ = some (.slice A0_0 l0_0.length c0_0) := (bc BK202.out 0).trans rfl
          have hcz70_1 : w68.cell? ⟨gb202, 1, none⟩ = some (.slice A0_1 l0_1.length c0_1) := (bc BK202.out 1).trans rfl
          have hfz70_0 := bf BK202.out 0
          have hfz70_1 := bf BK202.out 1
          try go_wp2_with (first | ((with_reducible refine gate_callee (f := 16) rfl ?_); refine goesL_ (some 27) rfl rfl Try.func16 (by kernel_rfl) rfl #[.agg #[.slice A0_0 l0_0.length c0_0, .slice A0_1 l0_1.length c0_1]] rfl (by (try simp only [List.map_toArray, List.map_cons, List.map_nil]); first | done | rfl | (simp only [List.length_drop, List.length_take]; rfl)) ?_; (with_reducible refine (shuttlecockref06_May.calls kj2 _ _ l0_0 _ _ l0_1 true _ ?side1 ?side2 ?side3 ?side4 A27.out).mono ?_); (case side1 => repeat (first | exact (Kd.C_below HR0_0.out HB.out) | (with_reducible refine Kd.C_alloc ?_ _) | (with_reducible refine Kd.C_drewN ?_ _) | (with_reducible refine Kd.C_drew ?_))); (case side2 => exact HC0_0.out); (case side3 => repeat (first | exact (Kd.C_below HR0_1.out HB.out) | (with_reducible refine Kd.C_alloc ?_ _) | (with_reducible refine Kd.C_drewN ?_ _) | (with_reducible refine Kd.C_drew ?_))); (case side4 => exact HC0_1.out); rintro e w71 ⟨rfl, hb⟩; refine ⟨_, rfl, ?_⟩; have n0_ := Am (blk_below (g := gb202) (o := .cells #[.slice A0_0 l0_0.length c0_0, .slice A0_1 l0_1.length c0_1] 25 (0, 0)) (by (with_reducible repeat (first | refine bn ?_ _ | refine bd ?_ | refine ba ?_ _)); exact BK202.out) hb); have n1_ := Am (blk_below (g := gb203) (o := .cells #[.slice A1_0 l1_0.length c1_0, .slice A1_1 l1_1.length c1_1] 25 (0, 0)) (by (with_reducible repeat (first | refine bn ?_ _ | refine bd ?_ | refine ba ?_ _)); exact BK203.out) hb); have n2_ := Am (below_step (by repeat (first | (with_reducible first | exact HB.out | apply bl | apply pN | apply b1 | refine bs ?_ GE202.out | refine bs ?_ GE203.out) | exact HB.out | exact HBo.out)) hb); clear BK202; clear BK203; clear HB; have BK202 := n0_; have BK203 := n1_; have HB := n2_; clear n0_ n1_ n2_; (try clear hb); (try clear hb2); (try clear hk); (try clear hi); have hcz72_0 : w71.cell? ⟨gb203, 0, none⟩ = some (.slice A1_0 l1_0.length c1_0) := (bc BK203.out 0).trans rfl; have hcz72_1 : w71.cell? ⟨gb203, 1, none⟩ = some (.slice A1_1 l1_1.length c1_1) := (bc BK203.out 1).trans rfl; have hfz72_0 := bf BK203.out 0; have hfz72_1 := bf BK203.out 1) | (go_at_call 16; (with_reducible refine (shuttlecockref06_May.calls kj2 _ _ l1_0 _ _ l1_1 true _ ?side1 ?side2 ?side3 ?side4 A51.out).mono ?_); (case side1 => repeat (first | exact (Kd.C_below HR1_0.out HB.out) | (with_reducible refine Kd.C_alloc ?_ _) | (with_reducible refine Kd.C_drewN ?_ _) | (with_reducible refine Kd.C_drew ?_))); (case side2 => exact HC1_0.out); (case side3 => repeat (first | exact (Kd.C_below HR1_1.out HB.out) | (with_reducible refine Kd.C_alloc ?_ _) | (with_reducible refine Kd.C_drewN ?_ _) | (with_reducible refine Kd.C_drew ?_))); (case side4 => exact HC1_1.out); rintro e w73 ⟨rfl, hb⟩; have n0_ := Am (blk_below (g := gb202) (o := .cells #[.slice A0_0 l0_0.length c0_0, .slice A0_1 l0_1.length c0_1] 25 (0, 0)) (by (with_reducible repeat (first | refine bn ?_ _ | refine bd ?_ | refine ba ?_ _)); exact BK202.out) hb); have n1_ := Am (blk_below (g := gb203) (o := .cells #[.slice A1_0 l1_0.length c1_0, .slice A1_1 l1_1.length c1_1] 25 (0, 0)) (by (with_reducible repeat (first | refine bn ?_ _ | refine bd ?_ | refine ba ?_ _)); exact BK203.out) hb); have n2_ := Am (below_step (by repeat (first | (with_reducible first | exact HB.out | apply bl | apply pN | apply b1 | refine bs ?_ GE202.out | refine bs ?_ GE203.out) | exact HB.out | exact HBo.out)) hb); clear BK202; clear BK203; clear HB; have BK202 := n0_; have BK203 := n1_; have HB := n2_; clear n0_ n1_ n2_; (try clear hb); (try clear hb2); (try clear hk); (try clear hi); have hcz74_0 : w73.cell? ⟨gb202, 0, none⟩ = some (.slice A0_0 l0_0.length c0_0) := (bc BK202.out 0).trans rfl; have hcz74_1 : w73.cell? ⟨gb202, 1, none⟩ = some (.slice A0_1 l0_1.length c0_1) := (bc BK202.out 1).trans rfl; have hfz74_0 := bf BK202.out 0; have hfz74_1 := bf BK202.out 1; have hcz75_0 : w73.cell? ⟨gb203, 0, none⟩ = some (.slice A1_0 l1_0.length c1_0) := (bc BK203.out 0).trans rfl; have hcz75_1 : w73.cell? ⟨gb203, 1, none⟩ = some (.slice A1_1 l1_1.length c1_1) := (bc BK203.out 1).trans rfl; have hfz75_0 := bf BK203.out 0; have hfz75_1 := bf BK203.out 1) | (go_at_call 15; (with_reducible refine (shuttlecockref06_Same.calls kj2 _ _ l0_0 _ _ l0_1 _ _ l1_0 _ _ l1_1 true _ ?side1 ?side2 ?side3 ?side4 ?side5 ?side6 ?side7 ?side8 A63.out).mono ?_); (case side1 => repeat (first | exact (Kd.C_below HR0_0.out HB.out) | (with_reducible refine Kd.C_alloc ?_ _) | (with_reducible refine Kd.C_drewN ?_ _) | (with_reducible refine Kd.C_drew ?_))); (case side2 => exact HC0_0.out); (case side3 => repeat (first | exact (Kd.C_below HR0_1.out HB.out) | (with_reducible refine Kd.C_alloc ?_ _) | (with_reducible refine Kd.C_drewN ?_ _) | (with_reducible refine Kd.C_drew ?_))); (case side4 => exact HC0_1.out); (case side5 => repeat (first | exact (Kd.C_below HR1_0.out HB.out) | (with_reducible refine Kd.C_alloc ?_ _) | (with_reducible refine Kd.C_drewN ?_ _) | (with_reducible refine Kd.C_drew ?_))); (case side6 => exact HC1_0.out); (case side7 => repeat (first | exact (Kd.C_below HR1_1.out HB.out) | (with_reducible refine Kd.C_alloc ?_ _) | (with_reducible refine Kd.C_drewN ?_ _) | (with_reducible refine Kd.C_drew ?_))); (case side8 => exact HC1_1.out); rintro e w76 ⟨rfl, hb⟩; have n0_ := Am (blk_below (g := gb202) (o := .cells #[.slice A0_0 l0_0.length c0_0, .slice A0_1 l0_1.length c0_1] 25 (0, 0)) (by (with_reducible repeat (first | refine bn ?_ _ | refine bd ?_ | refine ba ?_ _)); exact BK202.out) hb); have n1_ := Am (blk_below (g := gb203) (o := .cells #[.slice A1_0 l1_0.length c1_0, .slice A1_1 l1_1.length c1_1] 25 (0, 0)) (by (with_reducible repeat (first | refine bn ?_ _ | refine bd ?_ | refine ba ?_ _)); exact BK203.out) hb); have n2_ := Am (below_step (by repeat (first | (with_reducible first | exact HB.out | apply bl | apply pN | apply b1 | refine bs ?_ GE202.out | refine bs ?_ GE203.out) | exact HB.out | exact HBo.out)) hb); clear BK202; clear BK203; clear HB; have BK202 := n0_; have BK203 := n1_; have HB := n2_; clear n0_ n1_ n2_; (try clear hb); (try clear hb2); (try clear hk); (try clear hi)))
          go_ret
          exact ⟨by first | rfl | (simp [errW_none, errW_some] <;> rfl) | (simp [*, errW_none, errW_some] <;> rfl) | (simp [Aid.ne_nil, Aid.eq_nil, errW_none, errW_some]; done), by repeat (first | (with_reducible first | exact HB.out | apply bl | apply pN | apply b1 | refine bs ?_ GE202.out | refine bs ?_ GE203.out) | exact HB.out | exact HBo.out)⟩
         ·
          replace c65 := Bool.eq_false_iff.mpr c65
          subst c65
          have H1 : (none) = some r := by rw [if_neg (show ¬ (false = true) by decide)] at H; exact H
          clear H
          have H := H1
          clear H1
          exact absurd H (by simp)
        ·
         rw [if_neg c64] at H
         have c64b0 : (t208.toList == t209.toList) = false := beq_eq_false_iff_ne.mpr c64
         have c64b1 : (t208.toList != t209.toList) = true := bne_iff_ne.mpr c64
         by_cases c77 : t213 = true
         ·
          subst c77
          have H1 : (none) = some r := by rw [if_pos rfl] at H; exact H
          clear H
          have H := H1
          clear H1
          exact absurd H (by simp)
         ·
          replace c77 := Bool.eq_false_iff.mpr c77
          subst c77
          have H1 : (some true) = some r := by rw [if_neg (show ¬ (false = true) by decide)] at H; exact H
          clear H
          have H := H1
          clear H1
          obtain rfl := Option.some.inj H
          try go_wp2
          have n0_ := Am (bd BK202.out)
          have n1_ := Am (bd BK203.out)
          have n2_ := Am (b1 HB.out)
          clear BK202
          clear BK203
          clear HB
          have BK202 := n0_
          have BK203 := n1_
          have HB := n2_
          clear n0_ n1_ n2_
          refine start_ (n := 6) (S := fun w' => w'.cell? ⟨gb202, 0, none⟩ = some (.slice A0_0 l0_0.length c0_0) ∧ w'.cell? ⟨gb202, 1, none⟩ = some (.slice A0_1 l0_1.length c0_1) ∧ w'.cell? ⟨gb203, 0, none⟩ = some (.slice A1_0 l1_0.length c1_0) ∧ w'.cell? ⟨gb203, 1, none⟩ = some (.slice A1_1 l1_1.length c1_1)) (ds := []) q12_0 (by kernel_rfl) rfl rfl ⟨(bc BK202.out 0).trans rfl, (bc BK202.out 1).trans rfl, (bc BK203.out 0).trans rfl, (bc BK203.out 1).trans rfl⟩ (fun hHeld => ?_)
          generalize wc.drew = w78 at BK202 BK203 HB hHeld ⊢
          refine take_ (i := 0) (N := some 20) (v := ?_) (a' := ?_) q12_1 rfl rfl (by kernel_rfl) (fun _ _ _ h => h) (Or.inl ⟨by rfl, ?_⟩) hHeld ?_ ?_
          rotate_left
          ·
           rintro w' ⟨s0, s1, s2, s3⟩
           go_simp
           with_reducible rfl
          rotate_left
          ·
           simp only [Act.put, sI, sZ, sS, i64_w, i32_w]
           rfl
          refine take_ (i := 2) (N := some 22) (v := ?_) (a' := ?_) q12_2 rfl rfl (by kernel_rfl) (fun _ _ _ h => h) (Or.inl ⟨by rfl, ?_⟩) hHeld ?_ ?_
          rotate_left
          ·
           rintro w' ⟨s0, s1, s2, s3⟩
           go_simp
           with_reducible rfl
          rotate_left
          ·
           simp only [Act.put, sI, sZ, sS, i64_w, i32_w]
           rfl
          refine one_ (i := 1) (N := some 21) q12_3 rfl rfl (by kernel_rfl) (by decide) (fun K hK => ?_)
          refine goes_ Try.func11 (by kernel_rfl) rfl #[.agg #[.slice A0_0 l0_0.length c0_0, .slice A0_1 l0_1.length c0_1]] (by rfl) rfl rfl (by (try simp only [List.map_toArray, List.map_cons, List.map_nil]); first | done | rfl | (simp only [List.length_drop, List.length_take]; rfl)) ?_
          with_reducible refine (table_Encode.calls kj2 _ _ l0_0 _ _ l0_1 t208 _ ?side1 ?side2 ?side3 ?side4 A25.out).mono ?_
          (case side1 => repeat (first | exact (Kd.C_below HR0_0.out HB.out) | (with_reducible refine Kd.C_alloc ?_ _) | (with_reducible refine Kd.C_drewN ?_ _) | (with_reducible refine Kd.C_drew ?_)))
          (case side2 => exact HC0_0.out)
          (case side3 => repeat (first | exact (Kd.C_below HR0_1.out HB.out) | (with_reducible refine Kd.C_alloc ?_ _) | (with_reducible refine Kd.C_drewN ?_ _) | (with_reducible refine Kd.C_drew ?_)))
          (case side4 => exact HC0_1.out)
          rintro e w79 ⟨rfl, hb⟩
          refine ⟨_, rfl, ?_⟩
          have n0_ := Am (blk_below (g := gb202) (o := .cells #[.slice A0_0 l0_0.length c0_0, .slice A0_1 l0_1.length c0_1] 25 (0, 0)) (by (with_reducible repeat (first | refine bn ?_ _ | refine bd ?_ | refine ba ?_ _)); exact BK202.out) hb)
          have n1_ := Am (blk_below (g := gb203) (o := .cells #[.slice A1_0 l1_0.length c1_0, .slice A1_1 l1_1.length c1_1] 25 (0, 0)) (by (with_reducible repeat (first | refine bn ?_ _ | refine bd ?_ | refine ba ?_ _)); exact BK203.out) hb)
          have n2_ := Am (below_step (by repeat (first | (with_reducible first | exact HB.out | apply bl | apply pN | apply b1 | refine bs ?_ GE202.out | refine bs ?_ GE203.out) | exact HB.out | exact HBo.out)) hb)
          clear BK202
          clear BK203
          clear HB
          have BK202 := n0_
          have BK203 := n1_
          have HB := n2_
          clear n0_ n1_ n2_
          (try clear hb)
          (try clear hb2)
          (try clear hk)
          (try clear hi)
          refine hK.out _ _ ⟨(bc BK202.out 0).trans rfl, (bc BK202.out 1).trans rfl, (bc BK203.out 0).trans rfl, (bc BK203.out 1).trans rfl⟩ (fun hHeld => ?_)
          clear hK K
          refine norm_ (a' := ?_) ?_ ?_
          rotate_left
          ·
           show Act.put _ (some 21) _ = _
           simp only [Act.put, sI, sZ, sS, i64_w, i32_w]
           rfl
          refine one_ (i := 3) (N := some 23) q12_4 rfl rfl (by kernel_rfl) (by decide) (fun K hK => ?_)
          refine goes_ Try.func11 (by kernel_rfl) rfl #[.agg #[.slice A1_0 l1_0.length c1_0, .slice A1_1 l1_1.length c1_1]] (by rfl) rfl rfl (by (try simp only [List.map_toArray, List.map_cons, List.map_nil]); first | done | rfl | (simp only [List.length_drop, List.length_take]; rfl)) ?_
          with_reducible refine (table_Encode.calls kj2 _ _ l1_0 _ _ l1_1 t209 _ ?side1 ?side2 ?side3 ?side4 A26.out).mono ?_
          (case side1 => repeat (first | exact (Kd.C_below HR1_0.out HB.out) | (with_reducible refine Kd.C_alloc ?_ _) | (with_reducible refine Kd.C_drewN ?_ _) | (with_reducible refine Kd.C_drew ?_)))
          (case side2 => exact HC1_0.out)
          (case side3 => repeat (first | exact (Kd.C_below HR1_1.out HB.out) | (with_reducible refine Kd.C_alloc ?_ _) | (with_reducible refine Kd.C_drewN ?_ _) | (with_reducible refine Kd.C_drew ?_)))
          (case side4 => exact HC1_1.out)
          rintro e w80 ⟨rfl, hb⟩
          refine ⟨_, rfl, ?_⟩
          have n0_ := Am (blk_below (g := gb202) (o := .cells #[.slice A0_0 l0_0.length c0_0, .slice A0_1 l0_1.length c0_1] 25 (0, 0)) (by (with_reducible repeat (first | refine bn ?_ _ | refine bd ?_ | refine ba ?_ _)); exact BK202.out) hb)
          have n1_ := Am (blk_below (g := gb203) (o := .cells #[.slice A1_0 l1_0.length c1_0, .slice A1_1 l1_1.length c1_1] 25 (0, 0)) (by (with_reducible repeat (first | refine bn ?_ _ | refine bd ?_ | refine ba ?_ _)); exact BK203.out) hb)
          have n2_ := Am (below_step (by repeat (first | (with_reducible first | exact HB.out | apply bl | apply pN | apply b1 | refine bs ?_ GE202.out | refine bs ?_ GE203.out) | exact HB.out | exact HBo.out)) hb)
          clear BK202
          clear BK203
          clear HB
          have BK202 := n0_
          have BK203 := n1_
          have HB := n2_
          clear n0_ n1_ n2_
          (try clear hb)
          (try clear hb2)
          (try clear hk)
          (try clear hi)
          refine hK.out _ _ ⟨(bc BK202.out 0).trans rfl, (bc BK202.out 1).trans rfl, (bc BK203.out 0).trans rfl, (bc BK203.out 1).trans rfl⟩ (fun hHeld => ?_)
          clear hK K
          refine norm_ (a' := ?_) ?_ ?_
          rotate_left
          ·
           show Act.put _ (some 23) _ = _
           simp only [Act.put, sI, sZ, sS, i64_w, i32_w]
           rfl
          refine pure_ (i := 4) (N := some 5) (v := ?_) (a' := ?_) q12_5 rfl rfl (by kernel_rfl) (fun _ _ _ h => h) (Or.inl ⟨by rfl, ?_⟩) ?_ ?_
          rotate_left
          ·
           intro w'
           go_simp
           with_reducible rfl
          rotate_left
          ·
           simp only [Act.put, sI, sZ, sS, i64_w, i32_w]
           rfl
          refine pure_ (i := 5) (N := some 6) (v := ?_) (a' := ?_) q12_6 rfl rfl (by kernel_rfl) (fun _ _ _ h => h) (Or.inl ⟨by rfl, ?_⟩) ?_ ?_
          rotate_left
          ·
           intro w'
           go_simp
           with_reducible rfl
          rotate_left
          ·
           simp only [Act.put, sI, sZ, sS, i64_w, i32_w]
           rfl
          refine done_ (by kernel_rfl) ?_
          have hnb81 := NB202_203.out
          have hnc81 := NB203_202.out
          have hcz82_0 : w80.cell? ⟨gb202, 0, none⟩ = some (.slice A0_0 l0_0.length c0_0) := (bc BK202.out 0).trans rfl
          have hcz82_1 : w80.cell? ⟨gb202, 1, none⟩ = some (.slice A0_1 l0_1.length c0_1) := (bc BK202.out 1).trans rfl
          have hfz82_0 := bf BK202.out 0
          have hfz82_1 := bf BK202.out 1
          try go_wp2_with (first | ((with_reducible refine gate_callee (f := 16) rfl ?_); refine goesL_ (some 27) rfl rfl Try.func16 (by kernel_rfl) rfl #[.agg #[.slice A0_0 l0_0.length c0_0, .slice A0_1 l0_1.length c0_1]] rfl (by (try simp only [List.map_toArray, List.map_cons, List.map_nil]); first | done | rfl | (simp only [List.length_drop, List.length_take]; rfl)) ?_; (with_reducible refine (shuttlecockref06_May.calls kj2 _ _ l0_0 _ _ l0_1 true _ ?side1 ?side2 ?side3 ?side4 A27.out).mono ?_); (case side1 => repeat (first | exact (Kd.C_below HR0_0.out HB.out) | (with_reducible refine Kd.C_alloc ?_ _) | (with_reducible refine Kd.C_drewN ?_ _) | (with_reducible refine Kd.C_drew ?_))); (case side2 => exact HC0_0.out); (case side3 => repeat (first | exact (Kd.C_below HR0_1.out HB.out) | (with_reducible refine Kd.C_alloc ?_ _) | (with_reducible refine Kd.C_drewN ?_ _) | (with_reducible refine Kd.C_drew ?_))); (case side4 => exact HC0_1.out); rintro e w83 ⟨rfl, hb⟩; refine ⟨_, rfl, ?_⟩; have n0_ := Am (blk_below (g := gb202) (o := .cells #[.slice A0_0 l0_0.length c0_0, .slice A0_1 l0_1.length c0_1] 25 (0, 0)) (by (with_reducible repeat (first | refine bn ?_ _ | refine bd ?_ | refine ba ?_ _)); exact BK202.out) hb); have n1_ := Am (blk_below (g := gb203) (o := .cells #[.slice A1_0 l1_0.length c1_0, .slice A1_1 l1_1.length c1_1] 25 (0, 0)) (by (with_reducible repeat (first | refine bn ?_ _ | refine bd ?_ | refine ba ?_ _)); exact BK203.out) hb); have n2_ := Am (below_step (by repeat (first | (with_reducible first | exact HB.out | apply bl | apply pN | apply b1 | refine bs ?_ GE202.out | refine bs ?_ GE203.out) | exact HB.out | exact HBo.out)) hb); clear BK202; clear BK203; clear HB; have BK202 := n0_; have BK203 := n1_; have HB := n2_; clear n0_ n1_ n2_; (try clear hb); (try clear hb2); (try clear hk); (try clear hi); have hcz84_0 : w83.cell? ⟨gb203, 0, none⟩ = some (.slice A1_0 l1_0.length c1_0) := (bc BK203.out 0).trans rfl; have hcz84_1 : w83.cell? ⟨gb203, 1, none⟩ = some (.slice A1_1 l1_1.length c1_1) := (bc BK203.out 1).trans rfl; have hfz84_0 := bf BK203.out 0; have hfz84_1 := bf BK203.out 1) | (go_at_call 16; (with_reducible refine (shuttlecockref06_May.calls kj2 _ _ l1_0 _ _ l1_1 true _ ?side1 ?side2 ?side3 ?side4 A51.out).mono ?_); (case side1 => repeat (first | exact (Kd.C_below HR1_0.out HB.out) | (with_reducible refine Kd.C_alloc ?_ _) | (with_reducible refine Kd.C_drewN ?_ _) | (with_reducible refine Kd.C_drew ?_))); (case side2 => exact HC1_0.out); (case side3 => repeat (first | exact (Kd.C_below HR1_1.out HB.out) | (with_reducible refine Kd.C_alloc ?_ _) | (with_reducible refine Kd.C_drewN ?_ _) | (with_reducible refine Kd.C_drew ?_))); (case side4 => exact HC1_1.out); rintro e w85 ⟨rfl, hb⟩; have n0_ := Am (blk_below (g := gb202) (o := .cells #[.slice A0_0 l0_0.length c0_0, .slice A0_1 l0_1.length c0_1] 25 (0, 0)) (by (with_reducible repeat (first | refine bn ?_ _ | refine bd ?_ | refine ba ?_ _)); exact BK202.out) hb); have n1_ := Am (blk_below (g := gb203) (o := .cells #[.slice A1_0 l1_0.length c1_0, .slice A1_1 l1_1.length c1_1] 25 (0, 0)) (by (with_reducible repeat (first | refine bn ?_ _ | refine bd ?_ | refine ba ?_ _)); exact BK203.out) hb); have n2_ := Am (below_step (by repeat (first | (with_reducible first | exact HB.out | apply bl | apply pN | apply b1 | refine bs ?_ GE202.out | refine bs ?_ GE203.out) | exact HB.out | exact HBo.out)) hb); clear BK202; clear BK203; clear HB; have BK202 := n0_; have BK203 := n1_; have HB := n2_; clear n0_ n1_ n2_; (try clear hb); (try clear hb2); (try clear hk); (try clear hi); have hcz86_0 : w85.cell? ⟨gb202, 0, none⟩ = some (.slice A0_0 l0_0.length c0_0) := (bc BK202.out 0).trans rfl; have hcz86_1 : w85.cell? ⟨gb202, 1, none⟩ = some (.slice A0_1 l0_1.length c0_1) := (bc BK202.out 1).trans rfl; have hfz86_0 := bf BK202.out 0; have hfz86_1 := bf BK202.out 1; have hcz87_0 : w85.cell? ⟨gb203, 0, none⟩ = some (.slice A1_0 l1_0.length c1_0) := (bc BK203.out 0).trans rfl; have hcz87_1 : w85.cell? ⟨gb203, 1, none⟩ = some (.slice A1_1 l1_1.length c1_1) := (bc BK203.out 1).trans rfl; have hfz87_0 := bf BK203.out 0; have hfz87_1 := bf BK203.out 1) | (go_at_call 15; (with_reducible refine (shuttlecockref06_Same.calls kj2 _ _ l0_0 _ _ l0_1 _ _ l1_0 _ _ l1_1 false _ ?side1 ?side2 ?side3 ?side4 ?side5 ?side6 ?side7 ?side8 A63.out).mono ?_); (case side1 => repeat (first | exact (Kd.C_below HR0_0.out HB.out) | (with_reducible refine Kd.C_alloc ?_ _) | (with_reducible refine Kd.C_drewN ?_ _) | (with_reducible refine Kd.C_drew ?_))); (case side2 => exact HC0_0.out); (case side3 => repeat (first | exact (Kd.C_below HR0_1.out HB.out) | (with_reducible refine Kd.C_alloc ?_ _) | (with_reducible refine Kd.C_drewN ?_ _) | (with_reducible refine Kd.C_drew ?_))); (case side4 => exact HC0_1.out); (case side5 => repeat (first | exact (Kd.C_below HR1_0.out HB.out) | (with_reducible refine Kd.C_alloc ?_ _) | (with_reducible refine Kd.C_drewN ?_ _) | (with_reducible refine Kd.C_drew ?_))); (case side6 => exact HC1_0.out); (case side7 => repeat (first | exact (Kd.C_below HR1_1.out HB.out) | (with_reducible refine Kd.C_alloc ?_ _) | (with_reducible refine Kd.C_drewN ?_ _) | (with_reducible refine Kd.C_drew ?_))); (case side8 => exact HC1_1.out); rintro e w88 ⟨rfl, hb⟩; have n0_ := Am (blk_below (g := gb202) (o := .cells #[.slice A0_0 l0_0.length c0_0, .slice A0_1 l0_1.length c0_1] 25 (0, 0)) (by (with_reducible repeat (first | refine bn ?_ _ | refine bd ?_ | refine ba ?_ _)); exact BK202.out) hb); have n1_ := Am (blk_below (g := gb203) (o := .cells #[.slice A1_0 l1_0.length c1_0, .slice A1_1 l1_1.length c1_1] 25 (0, 0)) (by (with_reducible repeat (first | refine bn ?_ _ | refine bd ?_ | refine ba ?_ _)); exact BK203.out) hb); have n2_ := Am (below_step (by repeat (first | (with_reducible first | exact HB.out | apply bl | apply pN | apply b1 | refine bs ?_ GE202.out | refine bs ?_ GE203.out) | exact HB.out | exact HBo.out)) hb); clear BK202; clear BK203; clear HB; have BK202 := n0_; have BK203 := n1_; have HB := n2_; clear n0_ n1_ n2_; (try clear hb); (try clear hb2); (try clear hk); (try clear hi)))
          go_ret
          exact ⟨by first | rfl | (simp [errW_none, errW_some] <;> rfl) | (simp [*, errW_none, errW_some] <;> rfl) | (simp [Aid.ne_nil, Aid.eq_nil, errW_none, errW_some]; done), by repeat (first | (with_reducible first | exact HB.out | apply bl | apply pN | apply b1 | refine bs ?_ GE202.out | refine bs ?_ GE203.out) | exact HB.out | exact HBo.out)⟩
       ·
        replace c62 := Bool.eq_false_iff.mpr c62
        subst c62
        have H1 : (none) = some r := by rw [if_neg (show ¬ (false = true) by decide)] at H; exact H
        clear H
        have H := H1
        clear H1
        exact absurd H (by simp)
     ·
      replace c50 := Bool.eq_false_iff.mpr c50
      subst c50
      have H1 : (none) = some r := by rw [if_neg (show ¬ (false = true) by decide)] at H; exact H
      clear H
      have H := H1
      clear H1
      exact absurd H (by simp)

/-- THE ONE PURE STATEMENT of shuttlecocklaw07_TableApart (own row). -/
def shuttlecocklaw07_TableApart.Pure : Prop := ∀ (y0 : S25) (y1 : S25), (((∀ e5 ∈ y0.f0, e5.size ≤ 140737488351232) ∧ y0.f0.length ≤ 140737488351232) ∧ ((∀ e5 ∈ y0.f1, ((∀ e3 ∈ e5, ((Lit.int .i64 e3.f0).wf = true ∧ (Lit.int .i64 e3.f1).wf = true)) ∧ e5.length ≤ 140737488351232)) ∧ y0.f1.length ≤ 140737488351232)) → (((∀ e5 ∈ y1.f0, e5.size ≤ 140737488351232) ∧ y1.f0.length ≤ 140737488351232) ∧ ((∀ e5 ∈ y1.f1, ((∀ e3 ∈ e5, ((Lit.int .i64 e3.f0).wf = true ∧ (Lit.int .i64 e3.f1).wf = true)) ∧ e5.length ≤ 140737488351232)) ∧ y1.f1.length ≤ 140737488351232)) → ∃ k, shuttlecocklaw07_TableApart.f k y0.f0 y0.f1 y1.f0 y1.f1 = some true

end Go.Proofs.Ytlmmlmmbnfcogaa.Q
